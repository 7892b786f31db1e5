/-
  A part of the proof of ImageBytes: The ground of all walks of this seat: frames as functions, a world seen as three parts that lie apart (what
-/
import Derived.WalkSpells
import Derived.WalkLawsBesides
import Derived.Deep.Quiet
import Derived.Lib.Strings
set_option linter.unusedVariables false
set_option linter.unusedSimpArgs false
set_option maxRecDepth 100000
set_option maxHeartbeats 4000000
open Array renaming ext'->E4,foldl_toList->F7,getD_eq_getD_getElem?->AD,getElem?_eq_none->C4,getElem?_modify->C6,getElem?_setIfInBounds->DT,length_toList->DA,range->GE,toList_zipIdx->F2
open BitVec renaming ofInt->AC
open Bool renaming and_eq_true->A3
open Go renaming isAgg->DB
open Go.Act renaming put->GJ
open Go.Builtin renaming append_->CA,firstCells->AF,lenOf->CK,len_->FV,max2->E9,max_->FW,zeroCells->AH
open Go.Calls renaming mono->GK
open Go.Deferred renaming ofValue->F0
open Go.Exit renaming inBlock->GD
open Go.Instr renaming box->GS,build->GF,fieldAt->G1,fill->F8,slice->CM,sliceAt->C7,sliceBound->BX,sliceBounds->BT,storeAt->G3,sureAddr->E3
open Go.IntKind renaming bits->AO,max->DH,min->EJ,signed->D1,wrap->A0
open Go.Op renaming eqFields->GX,equalIn->D4,intArith->FC,intBits->DI,intCmp->DC,maxDepth->GY,stringOp->E0
open Go.Oper renaming apart_spec->DY,quietUpon->G0,upon->DM,wp->BG
open Go.Program renaming cellsOf->DL
open Go.Question renaming appendCap->BB,cut->E6
open Go.Region renaming binds->CV,ready->CF,wanted->C0
open Go.Result renaming andThen_ok->DF
open Go.Rows renaming mono->GW
open Go.Sem renaming run_bind->C8
open Go.Value renaming cells->ES
open Go.World renaming cell?->CB,freeze->GA,setCell->G2,shape?->EK
open Int renaming ediv_le_self->DV,ediv_nonneg->E2,le_of_lt->C9,le_trans->GM
open List renaming drop_set_of_lt->DE,foldl_cons->BU,getElem?_append_left->CR,getElem?_append_right->BK,getElem?_drop->DD,getElem?_eq_getElem->AA,getElem?_map->DJ,getElem?_take->BE,getElem?_toArray->ER,length_append->A4,length_cons->A2,mem_cons_of_mem->AI,mem_cons_self->B8,nil_append->AN,range->FD,take_add_one->CO,take_left->G4,take_of_length_le->AZ,take_set_of_le->D9
open Nat renaming add_assoc->BY,add_mul->AV,add_sub_cancel_left->C5,add_zero->DZ,beq->AR,ble->ET,eq_of_beq_eq_true->AM,le_of_ble_eq_true->BW,le_of_eq->FF,le_of_not_lt->DU,le_refl->AX,le_trans->AK,mul_le_mul_right->BP,mul_one->GT,one_mul->EA,zero_add->B9,zero_le->B5,zero_mul->EB
open Option renaming bind_some->BV,getD_some->BJ,map_some->C1
theorem Y.{u}{α:Sort u}{a:α}:a=a:=rfl
theorem Z:True:=trivial
section
variable{p:Prop}
theorem aG(h:p:=by repeat' first|exact Z|refine⟨λhc=>hc,?_⟩):p:=h
theorem zA(h:p:=by (repeat' split)<;>first|rfl|(exfalso;omega)|(exfalso;simp_all;done)|(exfalso;simp_all;omega)|grind):p:=h
theorem zB(h:p:=by cases b<;>cases want<;>simp_all):p:=h
theorem zC(h:p:=by cases op<;>simp[eqGuard]):p:=h
theorem zD(h:p:=by
 conv=>lhs;rw[hl]
 rw[List.filter_append,List.filter_cons,ha,hb,he]
 simp):p:=h
theorem zE(h:p:=by exact (Ly_ (by decide) h1).elim):p:=h
theorem zF(h:p:=by exact (key N L w i hL hm).mono λ_ _ ⟨v,H',o',h1,⟨vc',h5,h6,h7⟩,h3,h4⟩=>⟨v,H',vc',h1,h6,h7,h3,by rw[<- h5];exact h4⟩):p:=h
theorem zG(h:p:=by exact Yl_ (l:=⟨_⟩) (Yl_ h (by omega) Y) (by simp;omega) Y):p:=h
theorem zH(h:p:=by exact bt (P:=Q) (λ_=>h) λ_=>Sk_ h):p:=h
theorem zI(h:p:=by exact bt (P:=Q) (λ_=>h) λ_=>bt (P:=Q) (λ_=>h) λ_=>bt (P:=Q) (λ_=>h) λ_=>h):p:=h
theorem zJ(h:p:=by exact mk (zs e1) (zq e2) (zb e3) (Jg_ (Eh_ h).1) (zh e5) (zm e6) (zt e7)):p:=h
theorem zK(h:p:=by exact mk (zs e1) (zq e2) (zb e3) (zn e4) (zh e5) (Ix_ h) (zt e7)):p:=h
theorem zL(h:p:=by exact mk (zs e1) (zq e2) (zb e3) (zn e4) (zh e5) (zm e6) (zt e7)):p:=h
theorem zM(h:p:=by exact ple (by first|(rw[e];done)|(rw[e];rfl))):p:=h
theorem zN(h:p:=by exact ple (by first|rfl|(simp[F6_,B1_, *];done))):p:=h
theorem zO(h:p:=by exact ples (by first|(rw[e];done)|(rw[e];rfl))):p:=h
theorem zP(h:p:=by exact rt1 Y Y (An_ (λr:Ac_=> .agg (Ac_.pc r)) e1 (ple Y))):p:=h
theorem zQ(h:p:=by exact rt1 Y Y (An_ (λr:Ai_=> .agg (Ai_.pc r)) e1 (ple Y))):p:=h
theorem zR(h:p:=by exact rt1 Y Y (An_ (λr:Bool=> .bool r) e0 (ple Y))):p:=h
theorem zS(h:p:=by exact rt1 Y Y (An_ (λr:Bool=> .bool r) e1 (ple Y))):p:=h
theorem zT(h:p:=by exact rt1 Y Y (An_ (λr:Bool=> .bool r) e4 (ple Y))):p:=h
theorem zU(h:p:=by exact rt1 Y Y (An_ (λr:G_=> .agg (G_.pc r)) e0 (ple Y))):p:=h
theorem zV(h:p:=by exact rt1 Y Y (An_ (λr:Int=> .int .i64 r) e0 (ple Y))):p:=h
theorem zW(h:p:=by exact rt1 Y Y (An_ (λr:Int=> .int .u64 r) e0 (ple Y))):p:=h
theorem zX(h:p:=by exact rt1 Y Y (An_ (λr:M_=> .agg (M_.pc r)) e1 (ple Y))):p:=h
theorem zY(h:p:=by exact rt3 Y Y (E9_ (B_ (Go_ (B_ (ple Y) (B_ (ple Y) (B_ Ay_ (B_ Ay_ (B_ Ay_ Bd_)))))) (B_ (ple Y) (B_ (ple Y) Bd_))))):p:=h
theorem zZ(h:p:=by exact rt3 Y Y (E9_ (B_ Ay_ (B_ (ple Y) (B_ (ple Y) Bd_))))):p:=h
theorem yA(h:p:=by exact rt3 Y Y (E9_ (B_ Ay_ (B_ Ay_ (B_ (ple Y) Bd_))))):p:=h
theorem yB(h:p:=by exact rt4 Y Y (E9_ (B_ (ple Y) (B_ Ay_ (B_ (ple Y) (B_ (ple Y) Bd_)))))):p:=h
theorem yC(h:p:=by exact⟨.refl H,λ_ _=>rfl,_,this.put d (by simp[SimT,D5_]),kk _⟩):p:=h
theorem yD(h:p:=by exact⟨_,H,_,ha.put (by simpa using hd) _,hm.push i _,kk _⟩):p:=h
theorem yE(h:p:=by exact⟨_,hr',ha'.le,j,b,_,hL',rfl,vc',rfl,hq3 _ _ hsv.sims⟩):p:=h
theorem yG(h:p:=by exact⟨h4.1,λj q v hq hv=>W0_ hb (h4.2 j q v hq hv)⟩):p:=h
theorem yH(h:p:=by exact⟨v,hr,ha'.le,_,hL',vc',rfl,hv,hq3 _ _ hsv.sims⟩):p:=h
theorem yI(h:p:=by exact⟨v,hr,ha'.le,s'.L,_,hv,e3,e4,ha'.l,ha'.g,e5⟩):p:=h
theorem yJ(h:p:=by exact⟨v::vs,h1.cons h4,λw tmps htm hm=>by simp[List.mapM_cons,h3 w tmps htm hm,h2 w tmps htm hm]⟩):p:=h
theorem yK(h:p:=by first|(simp only[*,Bool.and_true,Bool.true_and,Bool.false_and,Bool.and_false,decide_true,decide_false];done)|(rw[Bool.eq_iff_iff];simp[and_assoc];done)|(rw[Bool.eq_iff_iff];simp;grind)):p:=h
theorem yL(h:p:=by
 have :(2:Nat) ^ 8=256:=rfl
 omega):p:=h
theorem yM(h:p:=by
 have :(m+1)*k<=xs.length*k:=Nat.mul_le_mul_right k (by omega)
 grind):p:=h
theorem yN(h:p:=by
 have :=congrArg (List.drop 1) e
 simpa [List.drop_drop,Nat.add_comm] using this):p:=h
theorem yO(h:p:=by
 have :=en_any (ats:=ats) (xs:=as0) ex h.cb
 grind):p:=h
theorem yP(h:p:=by
 have e1:(true&&(b==want))=false:=by simpa using e
 rw[e1] at k
 refine vw_qgs i hi hck hL0 hy ?_ k
 cases b<;>cases want<;>simp_all):p:=h
theorem yQ(h:p:=by
 have e1:IntKind.min .u8=0:=rfl
 have e2:IntKind.max .u8=255:=rfl
 exact .int (by omega) (by omega)):p:=h
theorem yR(h:p:=by
 have h':i.err=0:=h
 refine⟨h',?_,by simp⟩
 simp
 omega):p:=h
theorem yS(h:p:=by
 have h1:=D0_ h0
 have p4:=dt h1
 refine kC 7 ?_
 refine nN (k+1) ?_
 refine⟨by omega,?_⟩
 rw[hk2,D9_ hc0,takeE hc0]
 simp only[Iv_]
 rw[if_neg (by omega)]):p:=h
theorem yT(h:p:=by
 have h1:=D4_ h0
 have p0:=df h1
 refine kR 7 ?_
 exact congrArg PV.bool (Xd_ (by assumption)).symm):p:=h
theorem yU(h:p:=by
 have h1:=D4_ h0
 have p4:=df h1
 refine kR 12 ?_
 unfold Dz_
 rw[if_neg (by omega),hk2,D9_ hc0]
 simp only[Iv_]
 rw[if_pos (by omega)]):p:=h
theorem yV(h:p:=by
 have h2:=bl h1
 have p1:=dt h2
 have h3:=br h1
 refine kA 11 ?_
 refine cndF Y (by decide) ?_
 refine kR 9 ?_
 refine congrArg (PV.int .i64) ?_
 (try simp only[bl1] at *)
 simp only[Do_,Dd_,decide_eq_true_eq]
 (repeat' split)<;>first|rfl|omega|grind):p:=h
theorem yW(h:p:=by
 have h3:=(h x (List.mem_cons_self ..)).1
 simp only[List.map_cons,List.sum_cons,List.length_cons]
 omega):p:=h
theorem yX(h:p:=by
 have h4:=D0_ h3
 have p2:=dt h4
 refine kC 7 ?_
 exact nN (k+1) ⟨by omega,Tw_ hk2 (D9_ hc0) (D9_ hc1) (by assumption)⟩):p:=h
theorem yY(h:p:=by
 have h4:=D4_ h3
 have p2:=df h4
 refine kR 11 ?_
 exact congrArg PV.bool (Tv_ hk2 (D9_ hc0) (D9_ hc1) (by assumption)).symm):p:=h
theorem yZ(h:p:=by
 have hbo:E1_ false=[]:=rfl
 simp only[hbo] at *
 refine congrArg (PV.int .i64) ?_
 simp only[bl1] at *
 unfold D6_
 (repeat' split)<;>first|rfl|(exfalso;omega)|(exfalso;simp_all;done)|(exfalso;simp_all;omega)|grind):p:=h
theorem xA(h:p:=by
 have hgf:=hge.trans e
 refine k (λe=>by rw[hgf] at e;cases e) _ _ _ (hab.put d ?_)
 rw[hgf]
 exact Sim.gvf):p:=h
theorem xB(h:p:=by
 have hgt:=hge.trans e
 have hF:=h hgt
 have⟨vs,h1,h2⟩:=Jk_ (ats:=ats) (Ri_ hab.f (λt ht c v e=>(Lv_ hc).2 t ht c v e hgt) (Kn_ hno)) ha hF.cb
 refine op1_ph (hF.ph hab.g h1) h2 hd λv H' hv hl=>?_
 refine k (λ_=>hv.wf) _ _ _ ((hab.mono hl).put d ?_)
 rw[hgt]
 exact Sim.gvt hv):p:=h
theorem xC(h:p:=by
 have p0:=df h0
 refine kR 11 ?_
 exact congrArg (PV.int .i64) (Pi_ hk2 (by omega)).symm):p:=h
theorem xD(h:p:=by
 have p0:=dt h0
 exfalso
 omega):p:=h
theorem xE(h:p:=by
 have p1:=df h2
 refine kR 11 ?_
 exact congrArg PV.bool (Xc_ hk2 (by omega) (by omega)).symm):p:=h
theorem xF(h:p:=by
 have p2:=df h0
 refine go A_ 7 Y Y ⟨(by have hg:=El_ ls (k+1);have hfl:=congrArg List.length (Ci_ (by assumption :ls[k]? = some _));simp only[List.length_append] at hfl;omega),trivial⟩ ?_
 refine nN ⟨(k+1),(n+(c0.length:Int))⟩ ?_
 have hf:=Ci_ hc0
 have hg:=El_ ls (k+1)
 have hfl:=congrArg List.length hf
 simp only[List.length_append] at hfl
 exact⟨by omega,by (try simp only[]);omega⟩):p:=h
theorem xG(h:p:=by
 have p2:=dt h0
 exfalso
 omega):p:=h
theorem xH(h:p:=by
 intro w3
 have e5:=e4.trans (Df_ hr2.symm)
 refine vE 6 Y (sA A_ ?_)
 refine vtp 7 Y (hr:=by kernel_rfl) (ht:=by kernel_rfl) (sA A_ ?_)
 refine kE [8] 0 ?_
 refine vD<|kA 2 ?_
 subst e5
 exact qr3):p:=h
theorem xI(h:p:=by
 left
 have :n=18446744073709551615:=by omega
 subst this
 decide):p:=h
theorem xJ(h:p:=by
 have⟨c0,hc0⟩:=getE (xs:=ls) (m:=k) (by omega)
 refine jA 6 Y<|kI k hc0 λw1=>?_
 refine jA 7 Y<|ef (app A_ c0 Y Y Y Y Y Y Y Y Y (Nl_ Y (λ_=>rfl)) (hs:=by have hg:=El_ ls (k+1);have hfl:=congrArg List.length (Ci_ (by assumption :ls[k]? = some _));simp only[List.length_append] at hfl;subst hk2;(try simp only[]);omega) Y λu1=>?_)
 refine go A_ 8 Y Y ⟨(by have hg:=El_ ls (k+1);have hfl:=congrArg List.length (Ci_ (by assumption :ls[k]? = some _));simp only[List.length_append] at hfl;omega),trivial⟩ ?_
 exact nN ⟨(k+1),(out++c0),(u1)⟩ ⟨by omega,by (try simp only[]);rw[Ci_ hc0,hk2]⟩):p:=h
theorem xK(h:p:=by
 have⟨h1,h⟩:=Eh_ h
 have⟨h2,h⟩:=Eh_ h
 have⟨h3,h⟩:=Eh_ h
 have :=of_decide_eq_false (Tu_ (by decide) h3)
 exact mk (zs e1) (zq e2) ⟨Jg_ h1,Jg_ h2,by omega,(Eh_ h).1⟩ (zn e4) (zh e5) (zm e6) (zt e7)):p:=h
theorem xL(h:p:=by
 have⟨q,r,e3,q1,q2⟩:=hsT.sims.inv_cons
 cases e3
 have⟨q',r',e4,_,q4⟩:=q2.inv_cons
 cases e4
 exact q4.cons q1):p:=h
theorem xM(h:p:=by
 refine Io_ (t:=4) (i:=0) Y Y ?_
 refine kA 1 ?_
 refine ro1 (j:=0) Y Y Y ?_
 rfl):p:=h
theorem xN(h:p:=by
 refine bt (P:=LoP _ _) (λ_=>hn _) λ_=>?_
 exact bt (P:=LoP _ _) (λ_=>hn _) λ_=>trivial):p:=h
theorem xO(h:p:=by
 refine bt (P:=LoP _ _) (λ_=>hn) λ_=>?_
 exact bt (P:=LoP _ _) (λ_=>hn) λ_=>trivial):p:=h
theorem xP(h:p:=by
 refine congrArg (PV.int .i64) ?_
 (try simp only[bl1] at *)
 unfold Dl_
 (repeat (first|rw[if_pos (by omega)]|rw[if_neg (by omega)]|rw[if_pos (by assumption)]|rw[if_neg (by assumption)]|rw[if_neg (not_not_intro (by assumption))]))
 all_goals first|done|rfl|omega|(simp only[Do_,Dd_,decide_eq_true_eq];(repeat (first|rw[if_pos (by omega)]|rw[if_neg (by omega)]|rw[if_pos (by assumption)]|rw[if_neg (by assumption)]|rw[if_neg (not_not_intro (by assumption))]));first|done|rfl|omega|((repeat' split)<;>first|rfl|omega|grind))):p:=h
theorem xQ(h:p:=by
 refine congrArg (PV.int .i64) ?_
 (try simp only[bl1] at *)
 unfold Qk_
 repeat (first|rw[if_pos (by omega)]|rw[if_neg (by omega)])
 all_goals first|done|rfl|omega):p:=h
theorem xR(h:p:=by
 refine congrArg (PV.int .i64) ?_
 rw[J2_]
 simp only[bl1] at *
 first|(simp[*];done)|(simp[*];omega)|((repeat' split)<;>first|rfl|omega|(exfalso;simp_all;done)|(exfalso;simp_all;omega)|grind)):p:=h
theorem xS(h:p:=by
 refine congrArg (PV.int .i64) ?_
 simp only[bl1] at *
 unfold D6_
 (repeat' split)<;>first|rfl|(exfalso;omega)|(exfalso;simp_all;done)|(exfalso;simp_all;omega)|grind):p:=h
theorem xT(h:p:=by
 refine congrArg (PV.int .i64) ?_
 simp only[bl1] at *
 unfold Kh_
 (repeat' split)<;>first|rfl|(exfalso;omega)|(exfalso;simp_all;done)|(exfalso;simp_all;omega)|grind):p:=h
theorem xU(h:p:=by
 refine congrArg (PV.int .i64) ?_
 unfold Dl_
 repeat (first|rw[if_pos (by omega)]|rw[if_neg (by omega)]|rw[if_pos (by assumption)]|rw[if_neg (not_not_intro (by assumption))])
 all_goals first|done|rfl):p:=h
theorem xV(h:p:=by
 refine congrArg PV.bool ?_
 first|(rw[<- hk2,M2_ (k:=k) (by omega),List.all_cons];generalize ((s.getD k 0).toNat:Int)=z at *;simp[letter, *];done)|(rw[<- hk2,List.drop_of_length_le (by omega)];rfl)):p:=h
theorem xW(h:p:=by
 refine congrArg PV.bool ?_
 first|(simp[Qr_, *];done)|(simp[Qr_, *];omega)):p:=h
theorem xX(h:p:=by
 refine ef (app A_ [s] Y Y Y Y Y Y Y Y Y (Hc_ Y Y) (hs:=by first|omega|(simp;done)|(simp;omega)) Y λu2=>?_)
 refine kA 3 ?_
 refine Io_ (t:=4) (i:=0) Y Y ?_
 refine kA 1 ?_
 refine ro1 (j:=0) Y Y Y ?_
 exact (congrArg (λr:(List Bs)=>r) e2).symm):p:=h
theorem xY(h:p:=by
 refine ej Y (eC (Ey_ (Gj_ p) _ (hk:=by exact Km_ hat Y)) Y λw5=>?_)
 refine vE 7 Y (aL A_ 1 λb3=>?_)
 refine vE 9 Y (sA A_ ?_)
 refine vE 10 Y (sA A_ ?_)
 refine vD<|nZ ⟨(b3),(b2)⟩ ?_ ⟨Y,Y,Z⟩ ⟨Y,Y,Z⟩
 exact⟨w3,w4,w5⟩):p:=h
theorem xZ(h:p:=by
 refine ej Y (eC (Ey_ (Gj_ p) _ (hk:=by exact Km_ hat Y)) Y λw5=>?_)
 refine vE 8 Y (aL A_ 2 λb3=>?_)
 refine vE 9 Y (sA A_ ?_)
 refine vE 10 Y (sA A_ ?_)
 refine vD<|nZ ⟨(b2),(b3)⟩ ?_ ⟨Y,Y,Z⟩ ⟨Y,Y,Z⟩
 exact⟨w3,w4,w5⟩):p:=h
theorem wA(h:p:=by
 refine gy Af_ 7 ?_
 exact nJ ⟨(k+1),r0.1,give_,places,slots,grants,(u_places),(u_slots),(u_grants)⟩ e15):p:=h
theorem wB(h:p:=by
 refine gy Af_ 7 ?_
 exact nJ ⟨(k+1),work,give_,places,(slots++[r0.1]),grants,(u_places),(u1),(u_grants)⟩ e19):p:=h
theorem wC(h:p:=by
 refine gy Af_ 7 ?_
 exact nJ ⟨(k+1),work,r0.1,places,slots,grants,(u_places),(u_slots),(u_grants)⟩ e17):p:=h
theorem wD(h:p:=by
 refine jA 1 Y<|ef (app A_ s Y Y Y Y Y Y Y Y Y (Nl_ Y (λ_=>rfl)) (hs:=by first|omega|(simp;done)|(simp;omega)) Y λu1=>?_)
 refine kA 3 ?_
 refine Io_ (t:=2) (i:=0) Y Y ?_
 refine kA 1 ?_
 refine ro1 (j:=0) Y Y Y ?_
 first|(exact (hb2 (by assumption)).symm)|(exact hb2 (by assumption))|simp):p:=h
theorem wE(h:p:=by
 refine jA 1 Y<|ef (app A_ s Y Y Y Y Y Y Y Y Y (Nl_ Y (λ_=>rfl)) (hs:=by first|omega|(simp;done)|(simp;omega)) Y λu1=>?_)
 refine kA 3 ?_
 refine Je_ 0 Y ?_
 refine kR 1 ?_
 simp):p:=h
theorem wF(h:p:=by
 refine kA 1 ?_
 refine aN [1,4,5,6,7,8,9] 7 mixd<|kE [0,1,2,3,4] 2 ?_
 refine vT 5 Y (sA A_ ?_)
 refine kE [6] 0 ?_
 refine vD<|kA 7 ?_
 subst e3
 exact qr3):p:=h
theorem wG(h:p:=by
 refine kA 11 ?_
 refine Je_ 0 Y ?_
 refine kR 1 ?_
 rw[hk2,Op_ (by omega)]):p:=h
theorem wH(h:p:=by
 refine kA 11 ?_
 refine Je_ 1 Y ?_
 refine kA 1 ?_
 exact rt1 Y Y (An_ (λr:(List F_)=> .sl F_.pc r) e1 (ple Y))):p:=h
theorem wI(h:p:=by
 refine kA 11 ?_
 refine Je_ 1 Y ?_
 refine kA 1 ?_
 exact rt1 Y Y (An_ (λr:(List R_)=> .sl R_.pc r) e1 (ple Y))):p:=h
theorem wJ(h:p:=by
 refine kA 11 ?_
 subst e1
 exact qr1):p:=h
theorem wK(h:p:=by
 refine kA 11 ?_
 subst e3
 exact qr1):p:=h
theorem wL(h:p:=by
 refine kA 11 ?_
 subst e4
 exact qr1):p:=h
theorem wM(h:p:=by
 refine kA 11 ?_
 subst e5
 exact qr1):p:=h
theorem wN(h:p:=by
 refine kA 12 ?_
 exact rt1 Y Y (An_ (λr:Int=> .int .i64 r) e1 (ple Y))):p:=h
theorem wO(h:p:=by
 refine kA 12 ?_
 exact rt1 Y Y (An_ (λr:Int=> .int .i64 r) e3 (ple Y))):p:=h
theorem wP(h:p:=by
 refine kA 12 ?_
 subst e2
 exact qr1):p:=h
theorem wQ(h:p:=by
 refine kA 7 ?_
 refine rt1 Y Y ?_
 refine Kr_ ?_
 exact hb2 (by assumption)):p:=h
theorem wR(h:p:=by
 refine kA 7 ?_
 subst e1
 exact qr1):p:=h
theorem wS(h:p:=by
 refine kA 8 ?_
 subst e1
 exact qr1):p:=h
theorem wT(h:p:=by
 refine kA 8 ?_
 subst e3
 exact qr1):p:=h
theorem wU(h:p:=by
 refine kA 9 ?_
 refine Io_ (t:=4) (i:=0) Y Y ?_
 refine kA 1 ?_
 refine ro1 (j:=0) Y Y Y ?_
 rfl):p:=h
theorem wV(h:p:=by
 refine kB 10 [] λ_=>?_
 subst e1
 exact qr2):p:=h
theorem wW(h:p:=by
 refine kB 10 [] λ_=>?_
 subst e2
 exact qr2):p:=h
theorem wX(h:p:=by
 refine kB 10 [] λ_=>?_
 subst e3
 exact qr2):p:=h
theorem wY(h:p:=by
 refine kB 10 [] λ_=>?_
 subst e4
 exact qr2):p:=h
theorem wZ(h:p:=by
 refine kB 10 [] λ_=>?_
 subst e5
 exact qr2):p:=h
theorem vA(h:p:=by
 refine kB 10 [] λ_=>?_
 subst e7
 exact qr2):p:=h
theorem vB(h:p:=by
 refine kB 11 [] λ_=>?_
 subst e2
 exact qr3):p:=h
theorem vF(h:p:=by
 refine kB 13 [] λ_=>?_
 subst e1
 exact qr2):p:=h
theorem vG(h:p:=by
 refine kB 14 [0] λB0=>?_
 exact rt1 Y Y (An_ (λr:Int=> .int .u64 r) e0 (ple Y))):p:=h
theorem vH(h:p:=by
 refine kB 9 [] λ_=>?_
 subst e1
 exact qr2):p:=h
theorem vI(h:p:=by
 refine kB 9 [] λ_=>?_
 subst e2
 exact qr2):p:=h
theorem vJ(h:p:=by
 refine kB 9 [] λ_=>?_
 subst e7
 exact qr2):p:=h
theorem vK(h:p:=by
 refine kC 26 ?_
 refine rt1 Y Y (ple ?_)
 exact congrArg PV.bool (by rw[Bool.eq_iff_iff];first|(simp[Mail.eq_iff,and_assoc];done)|(simp[Mail.eq_iff];grind))):p:=h
theorem vL(h:p:=by
 refine kC 5 ?_
 exact rt1 Y Y (An_ (λr:Bool=> .bool r) e0 (ple Y))):p:=h
theorem vM(h:p:=by
 refine kC 7 ?_
 exact nI (k+1) e3):p:=h
theorem vN(h:p:=by
 refine kC 7 ?_
 exact nI (k+1) e5):p:=h
theorem vO(h:p:=by
 refine kC 7 ?_
 exact nN (k+1) ⟨by omega,Mn_ hk2 (D9_ hc0) (by assumption)⟩):p:=h
theorem vP(h:p:=by
 refine kC 8 ?_
 exact nN (k+1) ⟨by omega,by rw[<- hk2,M2_ (k:=k) (by omega),List.all_cons];generalize ((s.getD k 0).toNat:Int)=z at *;simp[letter, *]⟩):p:=h
theorem vQ(h:p:=by
 refine kC 9 ?_
 exact nJ ⟨(k+1),(n+r)⟩ e2):p:=h
theorem vR(h:p:=by
 refine kE [11] 1 ?_
 refine vT 12 Y (sO A_ ?_)
 refine vD<|kB 9 [] λ_=>?_
 subst e3
 exact qr2):p:=h
theorem vS(h:p:=by
 refine kL 8 (Ee_ _) Y Y Y λw2=>kA 4 ?_
 exact rt1 Y Y (An_ (λr:Bs=> .str r) e1 (ple Y))):p:=h
theorem vU(h:p:=by
 refine kR 11 ?_
 exact congrArg (PV.int .i64) (Pi_ hik2 (by omega)).symm):p:=h
theorem vV(h:p:=by
 refine kR 12 ?_
 exact congrArg (PV.int .i64) (Pj_ hik2 (D9_ hc0) (by first|assumption|(simp[*];done))).symm):p:=h
theorem vW(h:p:=by
 refine kR 12 ?_
 exact congrArg (PV.int .i64) (Pj_ hk2 (D9_ hc0) (by assumption)).symm):p:=h
theorem vX(h:p:=by
 refine kR 5 ?_
 exact congrArg PV.bool (by first|rfl|decide +kernel)):p:=h
theorem vY(h:p:=by
 refine kR 7 ?_
 refine congrArg PV.bool (spare_t λhh=>?_)
 have⟨t1,t2,t3,t4,t5,t6,t7,t8,t9,t10,t11⟩:=P6_.1 hh
 clear hh
 simp only[Bool.or_eq_true,Bool.and_eq_true,Bool.not_eq_true',decide_eq_true_eq,decide_eq_false_iff_not] at *
 grind):p:=h
theorem vZ(h:p:=by
 refine kR 8 ?_
 refine congrArg (PV.int .i64) ?_
 simp only[bl1] at *
 unfold Du_
 (repeat' split)<;>first|rfl|(exfalso;omega)|(exfalso;simp_all;done)|(exfalso;simp_all;omega)|grind):p:=h
theorem uA(h:p:=by
 refine kR 8 ?_
 simp[C6_, *]<;>omega):p:=h
theorem uB(h:p:=by
 refine kR 9 ?_
 refine congrArg (PV.int .i64) ?_
 (try simp only[bl1] at *)
 simp only[Do_,Dd_,decide_eq_true_eq]
 (repeat' split)<;>first|rfl|omega|grind):p:=h
theorem uC(h:p:=by
 refine ples ?_
 first|rfl|(simp[B1_,In.pc, *];done)|(simp only[B1_];split<;>simp_all [In.pc])):p:=h
theorem uD(h:p:=by
 refine ples ?_
 first|rfl|(simp[F6_,B1_,In.pc, *];done)|(simp only[F6_,B1_];split<;>simp_all [In.pc])):p:=h
theorem uE(h:p:=by
 refine ro1 (j:=0) Y Y Y ?_
 first|(exact (hb2 (by assumption)).symm)|(exact hb2 (by assumption))|simp):p:=h
theorem uF(h:p:=by
 refine rt1 Y Y (ple ?_)
 exact congrArg PV.bool (by rw[Bool.eq_iff_iff];first|(simp[R_.eq_iff,and_assoc];done)|(simp[R_.eq_iff];grind))):p:=h
theorem uG(h:p:=by
 refine rt1 Y Y (ple ?_)
 rfl):p:=h
theorem uH(h:p:=by
 refine rt1 Y Y (ple ?_)
 simp[O_,Out.pc, *]):p:=h
theorem uI(h:p:=by
 refine vC 5 Y Fd_ Y λw3=>kE [6,7,8,9] 7 ?_
 refine vC 10 Y On_ Y λw4=>kE [11,12] 4 ?_
 refine vC 13 Y Mx_ Y λw5=>vE 14 Y (bsl 2 i64c [C6_ d.bind.Al_,C6_ d.bind.to',Dd_ (decide (64<(d.bind.key.length:Int))) 5,Dz_ d.bind.want] A_ Y Y Y Y Y (λ_=>rfl) Y (hs:=by decide) (hs2:=by decide) Y λu0=>?_)
 refine vE 15 Y (W5_ 2 Y Oo_ Y Y Y λw6=>?_)
 refine kE [16] 0 ?_
 refine vD<|kR 4 ?_
 refine congrArg (PV.int .i64) ?_
 unfold Dl_
 repeat (first|rw[if_pos (by omega)]|rw[if_neg (by omega)]|rw[if_pos (by assumption)]|rw[if_neg (not_not_intro (by assumption))])
 all_goals first|done|rfl):p:=h
theorem uJ(h:p:=by
 refine vC 8 Y (Wb_ (A16.get a.rises v) (A16.get b.rises v)) Y λw4=>kE [9] 0 ?_
 refine vD<|nX () ?_ ⟨Y,Z⟩ Z
 exact w4):p:=h
theorem uK(h:p:=by
 refine vD<|kA 2 ?_
 exact rt2 Y Y (An_ (λr:Mail×Bool=> .tup [.agg (Mail.pc r.1), .bool r.2]) e1 (ple Y))):p:=h
theorem uL(h:p:=by
 refine vD<|kA 2 ?_
 subst e4
 exact qr3):p:=h
theorem uM(h:p:=by
 refine vE 10 Y (sA A_ ?_)
 refine kE [11] 0 ?_
 refine vD<|nX (b1) ?_ ⟨Y,Y,Z⟩ ⟨Y,Z⟩
 exact w2):p:=h
theorem uN(h:p:=by
 refine vE 10 Y (sA A_ ?_)
 refine vD<|nX (b1) ?_ ⟨Y,Z⟩ ⟨Y,Z⟩
 exact⟨w0,w2⟩):p:=h
theorem uO(h:p:=by
 refine vE 12 Y (sA A_ ?_)
 refine kE [13] 0 ?_
 refine vD<|nX (b1) ?_ ⟨Y,Z⟩ ⟨Y,Z⟩
 exact w3):p:=h
theorem uP(h:p:=by
 refine vE 13 Y (sA Bo_ ?_)
 refine vD<|nX (b2) ?_ ⟨Y,Z⟩ ⟨Y,Y,Z⟩
 exact⟨w2,w22p,w3,w23p⟩):p:=h
theorem uQ(h:p:=by
 refine vE 22 Y (sA Bo_ ?_)
 refine gX Bo_ [23] 0 ?_
 refine vD<|nX (b2) ?_ ⟨Y,Y,Z⟩ ⟨Y,Y,Z⟩
 exact⟨w4,w119p,w5,w120p,w6⟩):p:=h
theorem uR(h:p:=by
 refine vE 5 Y (eC (Jw_ (A16.get s.rises ((place).toNat)) m (hx:=by exact hs4 _ (by omega))) Y λw2=>?_)
 refine kE [6,7,8] 2 ?_
 refine vE 10 Y (sA A_ ?_)
 refine kE [11] 0 ?_
 refine vD<|nX (b1) ?_ ⟨Y,Y,Z⟩ ⟨Y,Z⟩
 exact w2):p:=h
theorem uS(h:p:=by
 refine vE 5 Y (eC (Vu_ (A16.get s.rises ((place).toNat)) m (hx:=by exact Nat.le_trans (hs.2.2 _ (by omega)) (by decide))) Y λw2=>?_)
 refine kE [6,7,8] 2 ?_
 refine vE 10 Y (sA A_ ?_)
 refine kE [11] 0 ?_
 refine vD<|nX (b1) ?_ ⟨Y,Y,Z⟩ ⟨Y,Z⟩
 exact w2):p:=h
theorem uT(h:p:=by
 refine vE 6 Y (M3_ 4 (G7_ s (K_ d.P_) _) Y Y λu1 w1=>?_)
 refine kE [7,8,9,10,11] 4 ?_
 refine vE 13 Y (sA A_ ?_)
 refine kE [14,15,16] 0 ?_
 refine vD<|nX ⟨(u1),(b1)⟩ ?_ ⟨Y,Y,Y,Y,Z⟩ ⟨Y,Y,Z⟩
 exact⟨w0,w1⟩):p:=h
theorem uU(h:p:=by
 refine vE 6 Y (eC (Ey_ (Gj_ p) _ (hk:=by exact Km_ hat Y)) Y λw5=>?_)
 refine vE 9 Y (sA A_ ?_)
 refine vE 10 Y (sA A_ ?_)
 refine vD<|nZ ⟨(b2),(b3)⟩ ?_ ⟨Y,Y,Z⟩ ⟨Y,Y,Z⟩
 exact⟨w3,w4,w5⟩):p:=h
theorem uV(h:p:=by
 refine vE 6 Y (eC (Ey_ (Gj_ p) _ (hk:=by exact Km_ hat Y)) Y λw5=>?_)
 refine vE 9 Y (sA A_ ?_)
 refine vE 10 Y (sA A_ ?_)
 refine vD<|nZ ⟨(b3),(b2)⟩ ?_ ⟨Y,Y,Z⟩ ⟨Y,Y,Z⟩
 exact⟨w3,w4,w5⟩):p:=h
theorem uW(h:p:=by
 refine vE 9 Y (aL A_ 1 λb1=>?_)
 refine vE 10 Y (sA A_ ?_)
 refine vD<|nX (b1) ?_ ⟨Y,Z⟩ ⟨Y,Z⟩
 exact⟨w0,w2⟩):p:=h
theorem uX(h:p:=by
 refine⟨by omega,?_,by simp;omega⟩
 rw[hk2,show ((g0).1).toNat-k=(((g0).1).toNat-(k+1))+1 by omega]
 have z:=λk=>readGo_ok (k:=k) (h:=h) (show Bx_ j=(g1.1,g1.2) from hg1) (by omega) (by rw[hg2];omega)
 rw[hg2] at z
 exact z _):p:=h
theorem uY(h:p:=by
 refine⟨by simp[h.1],λi p v hp hv=>?_⟩
 rw[List.getElem?_drop] at hp hv
 exact h.2 _ p v hp hv):p:=h
theorem uZ(h:p:=by
 refine⟨g-j,?_⟩
 rw[List.drop_drop,show j+(g-j)=g by omega]
 exact hg):p:=h
theorem tA(h:p:=by
 refine⟨⟨a,c,rfl,hc⟩,λm hm=>?_⟩
 have⟨cs,hE,hat⟩:=hall m hm
 have e:k0=te.size:=by rw[<- hE.1,hw]
 grind):p:=h
theorem tB(h:p:=by
 rename_i e
 have⟨h1,h0,h2⟩:=ih _ _ _ _ _ _ _ _ h hp he
 refine⟨h1,h0,λx=>?_⟩
 have :=h2 x
 simp only[Hd,Cf.holds,Kt.den,e] at this ⊢
 exact this):p:=h
theorem tC(h:p:=by
 repeat' split
 all_goals omega):p:=h
theorem tD(h:p:=by
 rw[Cp_ (by omega) (by omega)]
 omega):p:=h
theorem tE(h:p:=by
 rw[Cp_ (by omega) (by omega)]
 simp only[List.length_append,List.length_cons,List.length_nil]
 omega):p:=h
theorem tF(h:p:=by
 rw[Cp_ (by simp only[List.length_cons];omega) (by simp only[List.length_cons];omega)]
 grind):p:=h
theorem tG(h:p:=by
 rw[IntKind.wrap_u8]
 omega):p:=h
theorem tH(h:p:=by rw[decide_eq_false q,decide_eq_false (by omega)]):p:=h
theorem tI(h:p:=by
 rw[decide_eq_true e]
 rfl):p:=h
theorem tJ(h:p:=by rw[decide_eq_true q,decide_eq_true (by omega)]):p:=h
theorem tK(h:p:=by
 rw[decide_eq_true q]
 rfl):p:=h
theorem tL(h:p:=by
 rw[e]
 try (rw[show Dl_ d=0 by assumption])):p:=h
theorem tM(h:p:=by
 rw[e] at hr hw
 exact⟨_,Sim.int hr.1 hr.2,λH' L' _ _=>hw H' L'⟩):p:=h
theorem tN(h:p:=by
 rw[hb] at h6
 have⟨vc,hL,hsv⟩:=h6
 intro a w hA hm
 rw[if_pos (by simp[Region.wanted])]
 unfold Oper.wp
 rw[hA.eval,h2]
 refine (h.run N H L w b' i v1 vs vc hab.g g3 h4 hL hsv.sims hm).mono λe' w' ⟨v,H',vc',he,hv,hp,hl,hm'⟩=>?_
 subst he
 refine⟨_,H',_,hA.put (by simpa using hd) v,hm',hl,only,_,Abs.put (p:=res) ((hab.mono hl).turnB (B:= .box b' T0 post) i Z ⟨vc',rfl,Hz_ hp h.np⟩) d (hv.simT h.no),k hv.wf hp.wf⟩):p:=h
theorem tO(h:p:=by
 rw[he] at this
 simpa using this):p:=h
theorem tP(h:p:=by
 rw[hj]
 have e1:¬(((j:Nat):Int) == -1)=true:=by simp<;>omega
 have e2:¬(((j:Nat):Int)+1 == -1)=true:=by simp<;>omega
 rw[if_neg e1,if_neg e1,if_neg e2]
 have e3:(((j:Nat):Int)+1).toNat=j+1:=by omega
 rw[e3,Int.toNat_natCast]
 simp):p:=h
theorem tQ(h:p:=by
 rw[hk2,D9_ hc0]
 simp only[Ki_]
 first|(simp only[hasP];simp[*];done)|(unfold hasP;simp_all;done)|(unfold hasP;grind)):p:=h
theorem tR(h:p:=by
 rw[hk2,show ((g0).1).toNat-k=(((g0).1).toNat-(k+1))+1 by omega]
 exact Sh_ (show Bx_ j=(g1.1,g1.2) from hg1) (by omega)):p:=h
theorem tS(h:p:=by
 rw[hk2,show ((g0).1).toNat-k=(((g0).1).toNat-(k+1))+1 by omega]
 have z:=λk=>Si_ (k:=k) (h:=h) (show Bx_ j=(g1.1,g1.2) from hg1) (by omega) (by rw[hg2];omega)
 rw[hg2] at z
 exact z _):p:=h
theorem tT(h:p:=by
 rw[hk2,show ((g0).1).toNat-k=0 by omega]
 rfl):p:=h
theorem tU(h:p:=by
 rw[hl] at hc
 simp[execOp,Instr.loadAt,hx,Instr.sureAddr,loadVar,hg w,hk w,hc]):p:=h
theorem tV(h:p:=by
 rw[if_neg (by omega),hk2,List.drop_of_length_le (by omega)]
 rfl):p:=h
theorem tW(h:p:=by
 rw[if_neg (by omega),if_neg q2]
 simp):p:=h
theorem tX(h:p:=by
 rw[if_pos (by omega),if_pos q2]
 have :n-k=n-(k+1)+1:=by omega
 rw[this]
 simp):p:=h
theorem tY(h:p:=by
 rw[if_pos e] at h
 exact absurd h e):p:=h
theorem tZ(h:p:=by
 rw[this]
 exact⟨_,H,_,ha.put (by simpa using hd) _,hm.push i _,k _⟩):p:=h
theorem sC(h:p:=by
 show w.drew.alloc _=w.drew.alloc _
 congr 2
 apply Array.ext'
 simp):p:=h
theorem sD(h:p:=by
 simp only at h
 rw[e] at h
 rw[<- h,List.map_map]
 congr 1):p:=h
theorem sE(h:p:=by
 simp only[Bool.and_eq_true] at hck
 exact vw_none hck.1.1.1 hw):p:=h
theorem sF(h:p:=by
 simp only[Bool.not_eq_true',decide_eq_false_iff_not] at e
 exact (e h).elim):p:=h
theorem sG(h:p:=by
 simp only[Bool.not_eq_true',decide_eq_false_iff_not] at e1
 exact (e1 e2).elim):p:=h
theorem sH(h:p:=by
 simp only[IntKind.wrap,IntKind.bits,IntKind.signed]
 simp
 omega):p:=h
theorem sI(h:p:=by
 simp only[IntKind.wrap,IntKind.bits,IntKind.signed]
 simp
 split<;>omega):p:=h
theorem sJ(h:p:=by
 simp only[List.append_assoc]
 exact Ip_ h1.1 (by omega)):p:=h
theorem sK(h:p:=by
 simp only[List.append_assoc]
 exact Ok_ (h1:=by omega) (h2:=by omega)):p:=h
theorem sM(h:p:=by
 simp only[List.length_cons]
 omega):p:=h
theorem sN(h:p:=by
 simp only[List.length_nil] at hk
 have e:decide (k<r1.1)=false:=decide_eq_false (by omega)
 rw[e]
 simp):p:=h
theorem sP(h:p:=by
 simp only[Pair.wf] at q
 omega):p:=h
theorem sQ(h:p:=by
 simp only[SimT,Hp_ e] at h ⊢
 exact h):p:=h
theorem sR(h:p:=by
 simp only[Tp_ e]
 exact ha.f q):p:=h
theorem sS(h:p:=by
 simp only[]
 omega):p:=h
theorem sT(h:p:=by
 simp only[]
 rw[e]
 have hlo:=Na_ (o:=o) (hok.2 c0 (List.mem_of_getElem? hc0))
 refine⟨by omega,?_,by omega⟩
 rw[hk2,D9_ hc0,List.foldl_cons]):p:=h
theorem sU(h:p:=by
 simp only[]
 rw[e]
 refine⟨by omega,?_,by rw[List.length_append];omega⟩
 rw[hk2,D9_ hc0,List.flatMap_cons,List.append_assoc]):p:=h
theorem sV(h:p:=by
 simp[Builtin.append_,run_underlying hT,run_underlying hT2,hk w,hw,hinf,hl,h63,h1,hm00,hmk,hfit',hqf,hinf',hnil,h,hz1,hz2,newRow,bx,askRoom,<- hnc,news,U3_]
 first|done|rfl|(show w.drew.alloc _=w.drew.alloc _;congr 2;apply Array.ext';simp;done)):p:=h
theorem sW(h:p:=by
 simp[IntKind.wrap,IntKind.bits,IntKind.signed]
 omega):p:=h
theorem sX(h:p:=by simp[execOp,Instr.loadAt,hx,Instr.sureAddr,loadVar,hg w,hc]):p:=h
theorem sY(h:p:=by simpa using this):p:=h
theorem sZ(h:p:=by
 subst e
 simp only[D5_,C4_]
 exact hx):p:=h
theorem rA(h:p:=by
 subst e1
 exact qr3):p:=h
theorem rB(h:p:=by
 subst e1
 simp only[D5_]
 have :ofE (L i) 0=L i:=by cases L i<;>rfl
 rw[this]
 exact hB):p:=h
theorem rC(h:p:=by
 subst e10
 exact qr2):p:=h
theorem rD(h:p:=by
 subst e2
 exact qr1):p:=h
theorem rE(h:p:=by
 subst e2
 exact qr2):p:=h
theorem rF(h:p:=by
 subst e3
 exact qr1):p:=h
theorem rG(h:p:=by
 subst e3
 exact qr2):p:=h
theorem rH(h:p:=by
 subst e4
 exact qr1):p:=h
theorem rI(h:p:=by
 subst e4
 exact qr2):p:=h
theorem rJ(h:p:=by
 subst e4
 exact qr3):p:=h
theorem rK(h:p:=by
 subst e5
 exact qr2):p:=h
theorem rL(h:p:=by
 subst e5
 exact qr3):p:=h
theorem rM(h:p:=by
 subst e6
 exact qr2):p:=h
theorem rN(h:p:=by
 subst e8
 exact qr2):p:=h
theorem rO(h:p:=by
 subst hji
 exact Zw_ hi hm (hq H L (.refl _) hL a ha) λw' hw'=>⟨_,H,L,ha.putO hdi v,hw', .inl ⟨.refl _, .inr (.inl Y)⟩,hv⟩):p:=h
theorem rP(h:p:=by
 unfold Ht_
 repeat (first|rw[if_pos (by omega)]|rw[if_neg (by omega)])
 rfl):p:=h
theorem rQ(h:p:=by
 unfold Jo_
 have k0:numK 1=1:=by decide
 have k1:numK 8=8:=by decide
 rw[k0]
 first|(rw[if_pos (by omega),k1];simp;done)|(rw[if_neg (by omega),if_pos (by omega)];simp;done)|(rw[if_neg (by omega),if_neg (by omega)];simp;done)):p:=h
theorem rR(h:p:=by
 unfold Oper.quietAt
 rw[ha.eval,h H' L' hh hl _ _ _ _ w hw]
 exact⟨rfl,rfl⟩):p:=h
theorem rS(h:p:=by
 unfold Oper.quietAt
 rw[ha.eval,he]
 exact⟨rfl,(h.le hh) N L' w hw⟩):p:=h
theorem rT(h:p:=by
 unfold Oper.wp
 rw[ha.eval,h _ _ _ _ w hm]
 exact⟨_,_,_,ha.put (by simpa using hd) v,hm,k⟩):p:=h
theorem rU(h:p:=by
 unfold S5_
 rw[hj2,List.drop_of_length_le (by omega)]
 first|(simp[*];done)|simp_all):p:=h
theorem rV(h:p:=by
 unfold keyE
 rw[if_neg (by omega),hk2,D9_ hc0,List.any_cons,hb]
 rfl):p:=h
theorem rW(h:p:=by
 have h1:=D0_ h0
 have p4:=dt h1
 refine kL 6 Mx_ Y Y Y λw1=>kR 4 ?_
 exact xQ):p:=h
theorem rX(h:p:=by
 have h4:=bl h3
 have p2:=dt h4
 have h5:=br h3
 refine kR 11 ?_
 exact yZ):p:=h
theorem rY(h:p:=by
 have h6:=bl h5
 have p3:=dt h6
 have h7:=br h5
 refine kR 11 ?_
 exact yZ):p:=h
theorem rZ(h:p:=by
 refine Io_ (t:=2) (i:=0) Y Y ?_
 refine kA 2 ?_
 exact uE):p:=h
theorem qA(h:p:=by
 refine aN [1,2,5,6,7,8,9,10] 9 mixd<|kE [0,1,2,4,5] 4 ?_
 refine vE 3 Y (eC (Fz_ _ _ _) Y ?_)
 generalize hr2:W_ s r r0.1=r1
 exact xH):p:=h
theorem qB(h:p:=by
 refine ej Y (aL A_ 1 λb3=>?_)
 exact uV):p:=h
theorem qC(h:p:=by
 refine ej Y (aL A_ 1 λb3=>?_)
 refine vE 4 Y (eC (Ij_ p) Y λw4=>?_)
 exact uV):p:=h
theorem qD(h:p:=by
 refine ej Y (aL A_ 2 λb3=>?_)
 exact uU):p:=h
theorem qE(h:p:=by
 refine ej Y (aL A_ 2 λb3=>?_)
 refine vE 4 Y (eC (Ij_ p) Y λw4=>?_)
 exact uU):p:=h
theorem qF(h:p:=by
 refine gmy Af_ 17 [] λ_=>?_
 subst e14
 exact zY):p:=h
theorem qG(h:p:=by
 refine gmy Af_ 17 [] λ_=>?_
 subst e16
 exact zY):p:=h
theorem qH(h:p:=by
 refine gmy Af_ 17 [] λ_=>?_
 subst e18
 exact zY):p:=h
theorem qI(h:p:=by
 refine kA 12 ?_
 exact rt1 Y Y (An_ (λr:Bs=> .str r) e1 (ple Y))):p:=h
theorem qK(h:p:=by
 refine kB 11 [3] λB1=>?_
 refine aN [1,2,4,5,6,7,8,9] 9 mixd<|kE [0,1,2,4,5] 4 ?_
 refine vE 3 Y (eC Ne_ Y ?_)
 generalize hr2:Ex_ s r r0.1=r1
 exact xH):p:=h
theorem qL(h:p:=by
 refine kB 16 [0] λB0=>?_
 exact zR):p:=h
theorem qM(h:p:=by
 refine kB 9 [1] λB1=>?_
 refine aN [2,3,4,5,6,7] 17 mixd<|kE [0,1] 15 ?_
 refine vC 2 Y Fd_ Y λw2=>kE [3,4] 12 ?_
 exact uI):p:=h
theorem qN(h:p:=by
 refine kC 8 ?_
 refine nN (k+1) ?_
 refine⟨by omega,?_⟩
 exact tQ):p:=h
theorem qO(h:p:=by
 refine kE [6,7,8] 3 ?_
 refine vE 9 Y (aL A_ 3 λb1=>?_)
 exact uM):p:=h
theorem qP(h:p:=by
 refine kL 4 (Lg_ _) Y Y Y λw2=>?_
 have :=Kk_ d.P_
 refine kR 6 ?_
 exact xU):p:=h
theorem qQ(h:p:=by
 refine kR 11 ?_
 exact xP):p:=h
theorem qR(h:p:=by
 refine kR 7 ?_
 exact xR):p:=h
theorem qS(h:p:=by
 refine kR 8 ?_
 exact xS):p:=h
theorem qT(h:p:=by
 refine kR 8 ?_
 exact xU):p:=h
theorem qU(h:p:=by
 refine kR 9 ?_
 exact xP):p:=h
theorem qV(h:p:=by
 refine kR 9 ?_
 exact yZ):p:=h
theorem qW(h:p:=by
 refine ple ?_
 refine congrArg (PV.int .i64) ?_
 simp only[bl1] at *
 unfold inEnd
 exact zA):p:=h
theorem pE(h:p:=by ((try have :=hrl (by assumption));first|omega|(simp[D_,A5_,V_,numK]<;>omega))):p:=h
theorem nB(h:p:=by (try dsimp only);first|omega|exact Nq_):p:=h
theorem oL(h:p:=by (try dsimp only);omega):p:=h
theorem pY(h:p:=by (try simp only[]);omega):p:=h
theorem pJ(h:p:=by (try simp only[]);rw[Cp_ (by omega) (by omega)];omega):p:=h
theorem pV(h:p:=by as_aux_lemma=>kernel_rfl):p:=h
theorem pA(h:p:=by assumption):p:=h
theorem oE(h:p:=by cases h):p:=h
theorem qZ(h:p:=by decide):p:=h
theorem pN(h:p:=by decide +kernel):p:=h
theorem mE(h:p:=by first|(have :=snP_len (by assumption) (by assumption);(try dsimp only);omega)|omega):p:=h
theorem nY(h:p:=by first|(simp only[List.map_cons,List.map_nil,u8c];(repeat rw[u8row (by omega)]);done)|(simp only[List.map_cons,List.map_nil,u8c];(repeat rw[u8row (by omega)]);rfl)|(simp[u8c];omega)):p:=h
theorem mC(h:p:=by first|(simp;done)|exact (hu _ (by omega)).1):p:=h
theorem pO(h:p:=by first|assumption|exact Eg_ (by assumption)):p:=h
theorem pU(h:p:=by first|assumption|exact Eq.symm (by assumption)):p:=h
theorem nM(h:p:=by first|assumption|exact Qb_ (h:=by decide +kernel)):p:=h
theorem mH(h:p:=by first|assumption|exact StOk.pol (by assumption)):p:=h
theorem oB(h:p:=by first|assumption|exact StOk.stk (by assumption)):p:=h
theorem oN(h:p:=by first|assumption|exact dd1 (by decide +kernel)|exact⟨by first|(simp;done)|omega,by first|(simp;done)|omega,by first|(simp;done)|((try dsimp only);omega),by first|(simp;done)|((try dsimp only);omega)⟩):p:=h
theorem oG(h:p:=by first|assumption|omega):p:=h
theorem oO(h:p:=by first|assumption|omega|(dsimp only;omega)|decide +kernel):p:=h
theorem nD(h:p:=by first|exact S0_ (by assumption) (by omega)|exact Va_ (by assumption) (by assumption) (by assumption) (by omega)|exact Vb_ (m:=_) (by assumption) (by assumption) (by assumption) (by omega) (by first|assumption|exact Eq.symm (by assumption)) (by assumption) (by assumption) (by assumption) Y (by assumption)):p:=h
theorem nC(h:p:=by first|exact Vz_ (by omega) (by omega)|exact Z7_ (by assumption) (by omega) (by omega)|exact W4_ (m:=_) (by omega) (by omega) (by first|assumption|exact Eq.symm (by assumption)) (by assumption) (by assumption) (by assumption) Y (by assumption)):p:=h
theorem nT(h:p:=by first|exact off_refl|(repeat (first|exact off_mask|refine off_upd Y ?_|refine off_mask2 Y ?_))):p:=h
theorem oV(h:p:=by first|exact rbI_b hI (by omega) (by first|assumption|exact Eq.symm (by assumption))|exact rbI_c hI (by omega) (by assumption) (by assumption)|exact rbI_a hI (by omega)):p:=h
theorem nH(h:p:=by first|exact rbmu_b hI (by omega) (by first|assumption|exact Eq.symm (by assumption)) (by omega)|exact rbmu_c hI (by omega) (by assumption) (by assumption) (by omega)|exact rbmu_a hI (by omega) (by omega)):p:=h
theorem mA(h:p:=by first|exact snP_7|exact snP_1 (by assumption) (by omega) (by omega) Y):p:=h
theorem mI(h:p:=by first|exact w.1|exact w.2.1|exact w.2.2.1|exact w.2.2.2.1|exact w.2.2.2):p:=h
theorem nW(h:p:=by first|exact⟨by omega,by omega⟩|exact hsp _ (by omega)):p:=h
theorem pG(h:p:=by first|omega|(simp only[List.length_append,List.length_cons,List.length_nil];omega)|((try simp only[]);omega)):p:=h
theorem pM(h:p:=by first|omega|(simp only[List.length_append,List.length_cons,List.length_nil];omega)|(simp only[List.length_append,List.length_cons,List.length_nil,V_];omega)):p:=h
theorem nP(h:p:=by first|omega|(simp only[List.length_append];omega)):p:=h
theorem pF(h:p:=by first|omega|(simp only[gOf,bl2] at *;omega)):p:=h
theorem pD(h:p:=by first|omega|(simp;done)|(simp;omega)):p:=h
theorem oY(h:p:=by first|omega|(simp;done)|decide +kernel):p:=h
theorem nA(h:p:=by first|omega|(simp;omega)):p:=h
theorem mB(h:p:=by first|omega|exact Nat.le_trans (by assumption) (by assumption)):p:=h
theorem nF(h:p:=by have :=Nat.le_of_ble_eq_true hs;simp[hsim.1];exact this):p:=h
theorem nO(h:p:=by have :=Nat.le_of_ble_eq_true hs;simp[hsim.1];omega):p:=h
theorem nK(h:p:=by have :=h1.inv_str.2;simp;omega):p:=h
theorem mD(h:p:=by have :=nik_r h.stk;simpa using this):p:=h
theorem oC(h:p:=by have hg:=El_ ls (k+1);have hfl:=congrArg List.length (Ci_ (by assumption :ls[k]? = some _));simp only[List.length_append] at hfl;omega):p:=h
theorem mJ(h:p:=by have hq:=V_ (numK bytes) n.toNat;simp[numK] at *;omega):p:=h
theorem oF(h:p:=by intro _;omega):p:=h
theorem qY(h:p:=by kernel_rfl):p:=h
theorem nL(h:p:=by have⟨a0,a1,a2,a3⟩:=p;have⟨b0,b1,b2,b3⟩:=q;rw[Bool.eq_iff_iff];simp):p:=h
theorem nR(h:p:=by have⟨a0,a1,a2⟩:=p;have⟨b0,b1,b2⟩:=q;rw[Bool.eq_iff_iff];simp):p:=h
theorem qX(h:p:=by omega):p:=h
theorem pK(h:p:=by repeat (first|exact K9_|exact LLe.refl _|exact Hf_|refine L3_ ?_ Y)):p:=h
theorem nU(h:p:=by rw[(hc0 (by first|omega|(simp only[gOf,bl2] at *;omega)))];simp[*]):p:=h
theorem mF(h:p:=by rw[<- Act.put_comm a v u h2];exact he):p:=h
theorem nS(h:p:=by rw[<- Act.put_comm a v undef h2];exact h):p:=h
theorem oJ(h:p:=by rw[Cp_ (by omega) (by omega)];omega):p:=h
theorem pP(h:p:=by rw[e]):p:=h
theorem oZ(h:p:=by rw[hl,Nat.add_mul];omega):p:=h
theorem oM(h:p:=by rw[hr] at q;cases q):p:=h
theorem oX(h:p:=by rw[hs.1];exact hl):p:=h
theorem pC(h:p:=by simp):p:=h
theorem oW(h:p:=by simp [World.freeze,hln]):p:=h
theorem nE(h:p:=by simp only[IntKind.wrap_u64] at *;omega):p:=h
theorem nV(h:p:=by simp only[List.length_append,List.length_cons,List.length_nil];omega):p:=h
theorem mG(h:p:=by simp only[List.length_append,List.length_cons,List.length_nil];rw[Cp_ (by omega) (by omega)];omega):p:=h
theorem nG(h:p:=by simp only[List.length_cons];omega):p:=h
theorem oK(h:p:=by simp only[gOf,B2_,D3_,Bool.and_eq_true,Bool.or_eq_true,Bool.not_eq_true',decide_eq_true_eq,decide_eq_false_iff_not,cond_true,cond_false] at hc;omega):p:=h
theorem pL(h:p:=by simp;omega):p:=h
theorem oT(h:p:=by simp[Ht_];exact⟨rfl,rfl,rfl⟩):p:=h
theorem oU(h:p:=by simp[Region.wanted,Lu_ ha hy,hb]):p:=h
theorem nQ(h:p:=by simp[Region.wanted,this]):p:=h
theorem pH(h:p:=by simp[Region.wanted]):p:=h
theorem oI(h:p:=by simp[SimT,D5_]):p:=h
theorem oH(h:p:=by simp[gOf,h1]):p:=h
theorem oA(h:p:=by simp[hq]):p:=h
theorem oR(h:p:=by simp[hx,hy]):p:=h
theorem pR(h:p:=by simp[hx]):p:=h
theorem pQ(h:p:=by simp[hy]):p:=h
theorem pS(h:p:=by simp[hz]):p:=h
theorem pX(h:p:=by simp[q]):p:=h
theorem oS(h:p:=by simpa [PV.flat] using hf):p:=h
theorem oD(h:p:=by simpa [rdB] using h1):p:=h
theorem pW(h:p:=by simpa using e):p:=h
theorem pT(h:p:=by simpa using h):p:=h
theorem pI(h:p:=by simpa using hd):p:=h
theorem pZ(h:p:=by simpa using hl):p:=h
theorem oQ(h:p:=by simpa using hq):p:=h
theorem oP(h:p:=by simpa using q):p:=h
end
namespace Go.SW
abbrev Fr:=Nat->Value
abbrev Hp:=Nat->Option Obj
abbrev Ls:=Nat->Option (Nat×Obj)
theorem natBeq{a b:Nat}(h:a≠b):Nat.beq a b=false:=by
 cases e:AR a b with
 |false=>rfl
 |true=>exact absurd (AM e) h
def upd(F:Fr)(d:Nat)(v:Value):Fr:=λt=>bif AR t d then v else F t
def lupd(L:Ls)(i:Nat)(x:Option (Nat×Obj)):Ls:=λj=>bif AR j i then x else L j
def ofL(bs:List (Nat×Obj)):Ls:=λi=>bs[i]?
def l0:Ls:=λ_=>none
theorem upd_same(F:Fr)(d:Nat)(v:Value):upd F d v d=v:=by simp[upd]
theorem upd_ne{F:Fr}{d t:Nat}{v:Value}(h:t≠d):upd F d v t=F t:=by
 have :AR t d=false:=natBeq h;simp[upd,this]
theorem C4_(L:Ls)(i:Nat)(x:Option (Nat×Obj)):lupd L i x i=x:=by simp[lupd]
theorem Cx_{L:Ls}{i j:Nat}{x:Option (Nat×Obj)}(h:j≠i):lupd L i x j=L j:=by
 have :AR j i=false:=natBeq h;simp[lupd,this]
def ev(F:Fr):Operand->Value
 | .tmp t=>F t
 | .const v=>v
 | .global g=> .pointer (some ⟨g,0,none⟩)
 | .func f=> .func (.func f) #[] #[]
structure At(n:Nat)(a:Act)(F:Fr):Prop where
 size:a.tmps.size=n
 get:∀ t,a.tmps.getD t undef=F t
 defers:a.defers=[]
theorem At.eval{n:Nat}{a:Act}{F:Fr}(h:At n a F):a.eval=ev F:=by
 funext x
 cases x with
 |tmp t=>exact h.get t
 |const v=>rfl
 |«global» g=>rfl
 |func f=>rfl
theorem At.put{n:Nat}{a:Act}{F:Fr}(h:At n a F){d:Nat}(hd:d<n)(v:Value):At n (a.put (some d) v) (upd F d v):=by
 refine⟨by simp[GJ,h.size],λt=>?_,h.defers⟩;have hs:=h.size;have hg:=h.get t;by_cases e:t=d;subst e;rw[upd_same];simp[GJ,hs,hd];rw[upd_ne e,<- hg];have :¬d=t:=λx=>e x.symm;simp[GJ,DT,this]
structure Rest where
 heap:Hp
 os:Os
 tape:Nat->Question->Nat
 output:Array (Nat×ByteArray)
structure Mem(N:Rest)(H:Hp)(L:Ls)(w:World):Prop where
 os:w.os=N.os
 tape:w.tape=N.tape
 output:w.output=N.output
 n:∀ b o,N.heap b=some o->w.heap[b]? = some o
 h:∀ b o,H b=some o->w.heap[b]? = some o
 l:∀ i b o,L i=some (b,o)->w.heap[b]? = some o
 nh:∀ b o,N.heap b=some o->H b=none
 nl:∀ i b o,L i=some (b,o)->N.heap b=none/\H b=none
 ll:∀ i j b o o',L i=some (b,o)->L j=some (b,o')->i=j
def HLe(H H':Hp):Prop:=∀ b o,H b=some o->H' b=some o
theorem HLe.refl(H:Hp):HLe H H:=λ_ _ h=>h
theorem HLe.trans{A B C:Hp}(h:HLe A B)(k:HLe B C):HLe A C:=λb o x=>k b o (h b o x)
theorem Mem.of_same{N:Rest}{H:Hp}{L:Ls}{w w':World}(h:Mem N H L w)(ho:w'.os=w.os)(ht:w'.tape=w.tape)(hp:w'.output=w.output)(hh:∀ (b:Nat) (o:Obj),w.heap[b]? = some o->w'.heap[b]? = some o):Mem N H L w':=
 ⟨ho.trans h.os,ht.trans h.tape,hp.trans h.output,λb o x=>hh _ _ (h.n b o x),λb o x=>hh _ _ (h.h b o x),λi b o x=>hh _ _ (h.l i b o x),h.nh,h.nl,h.ll⟩
theorem Mem.drew{N:Rest}{H:Hp}{L:Ls}{w:World}(h:Mem N H L w)(k:Nat):Mem N H L {w with drawn:=k}:=h.of_same rfl rfl rfl (λ_ _ x=>x)
theorem Mem.push{N:Rest}{H:Hp}{L:Ls}{w:World}(h:Mem N H L w)(i:Nat)(o:Obj):Mem N H (lupd L i (some (w.heap.size,o))) {w with heap:=w.heap.push o}:=by
 have hb:∀ b o',w.heap[b]? = some o'->b<w.heap.size:=λb o' x=>by
   grind
 have hk:∀ b o',w.heap[b]? = some o'->(w.heap.push o)[b]? = some o':=λb o' x=>by
   have :=hb b o' x
   rw[Array.getElem?_push,if_neg qX];exact x
 refine⟨h.os,h.tape,h.output,λb o' x=>hk _ _ (h.n b o' x),λb o' x=>hk _ _ (h.h b o' x),λj b o' x=>?_,h.nh,λj b o' x=>?_,λj k b o1 o2 x y=>?_⟩;by_cases e:j=i
 . subst e;rw[C4_] at x;cases x;simp
 rw[Cx_ e] at x;exact hk _ _ (h.l j b o' x);by_cases e:j=i
 . subst e;rw[C4_] at x;cases x
   constructor
   . cases q:N.heap w.heap.size with
     |none=>rfl
     |some o1=>have :=hb _ _ (h.n _ _ q);omega
   . cases q:H w.heap.size with
     |none=>rfl
     |some o1=>have :=hb _ _ (h.h _ _ q);omega
 rw[Cx_ e] at x;exact h.nl j b o' x;by_cases e:j=i;by_cases e':k=i;omega
 . subst e;rw[C4_] at x;rw[Cx_ e'] at y;cases x
   have :=hb _ _ (h.l _ _ _ y);omega
 by_cases e':k=i
 . subst e';rw[C4_] at y;rw[Cx_ e] at x;cases y
   have :=hb _ _ (h.l _ _ _ x);omega
 rw[Cx_ e] at x;rw[Cx_ e'] at y;exact h.ll _ _ _ _ _ x y
theorem Mem.sub{N:Rest}{H:Hp}{L L':Ls}{w:World}(h:Mem N H L w)(hs:∀ i x,L' i=some x->∃ j,L j=some x)(hi:∀ i j x y,L' i=some x->L' j=some y->x.1=y.1->i=j):Mem N H L' w:=by
 refine⟨h.os,h.tape,h.output,h.n,h.h,λi b o x=>?_,h.nh,λi b o x=>?_,λi j b o o' x y=>hi i j _ _ x y Y⟩;have⟨j,hj⟩:=hs i _ x;exact h.l j b o hj;have⟨j,hj⟩:=hs i _ x;exact h.nl j b o hj
theorem Mem.clear{N:Rest}{H:Hp}{L:Ls}{w:World}(h:Mem N H L w)(i:Nat):Mem N H (lupd L i none) w:=by
 have hx:∀ j x,lupd L i none j=some x->L j=some x:=λj x y=>by
   by_cases e:j=i
   . subst e;rw[C4_] at y;cases y
   . rwa [Cx_ e] at y
 refine h.sub (λj x y=>⟨j,hx j x y⟩) (λj k x y p q e=>?_);have⟨b,o⟩:=x;have⟨b',o'⟩:=y
 cases (show b=b' from e)
 exact h.ll j k b o o' (hx _ _ p) (hx _ _ q)
theorem Mem.set{N:Rest}{H:Hp}{L:Ls}{w w':World}(h:Mem N H L w){i b:Nat}{o o':Obj}(hi:L i=some (b,o))(ho:w'.os=w.os)(ht:w'.tape=w.tape)(hp:w'.output=w.output)
   (hb:w'.heap[b]? = some o') (hh:∀ c x,c≠b->w.heap[c]? = some x->w'.heap[c]? = some x):Mem N H (lupd L i (some (b,o'))) w':=by
 have hn:=h.nl i b o hi;refine⟨ho.trans h.os,ht.trans h.tape,hp.trans h.output,λc x y=>?_,λc x y=>?_,λj c x y=>?_,h.nh,λj c x y=>?_,λj k c x x' y z=>?_⟩
 . refine hh _ _ (λe=>?_) (h.n c x y);subst e;rw[hn.1] at y;cases y
 . refine hh _ _ (λe=>?_) (h.h c x y);subst e;rw[hn.2] at y;cases y
 by_cases e:j=i
 . subst e;rw[C4_] at y;cases y;exact hb
 rw[Cx_ e] at y;refine hh _ _ (λe'=>?_) (h.l j c x y);subst e';exact e (h.ll _ _ _ _ _ y hi);by_cases e:j=i
 . subst e;rw[C4_] at y;cases y;exact hn
 rw[Cx_ e] at y;exact h.nl j c x y;by_cases e:j=i;by_cases e':k=i;omega
 . subst e;rw[C4_] at y;cases y;rw[Cx_ e'] at z;exact h.ll _ _ _ _ _ hi z
 by_cases e':k=i
 . subst e';rw[C4_] at z;cases z;rw[Cx_ e] at y;exact h.ll _ _ _ _ _ y hi
 rw[Cx_ e] at y;rw[Cx_ e'] at z;exact h.ll _ _ _ _ _ y z
def hadd(H:Hp)(b:Nat)(o:Obj):Hp:=λc=>if c=b then some o else H c
theorem hadd_le{H:Hp}{b:Nat}{o:Obj}(h:H b=none):HLe H (hadd H b o):=λc x y=>by
 by_cases e:c=b
 . subst e;rw[h] at y;cases y
 . simp[hadd,e,y]
theorem Mem.give{N:Rest}{H:Hp}{L:Ls}{w:World}(h:Mem N H L w){i b:Nat}{o:Obj}(hi:L i=some (b,o)):Mem N (hadd H b o) (lupd L i none) w/\HLe H (hadd H b o):=by
 have hn:=h.nl i b o hi;have hc:=h.clear i;refine⟨⟨h.os,h.tape,h.output,h.n,λc x y=>?_,hc.l,λc x y=>?_,λj c x y=>?_,hc.ll⟩,hadd_le hn.2⟩;by_cases e:c=b;subst e;simp[hadd] at y;subst y;exact h.l i _ _ hi;simp[hadd,e] at y;exact h.h c x y;have e:c≠b:=λe=>by subst e;rw[hn.1] at y;cases y
 simp[hadd,e];exact h.nh c x y;have q:=hc.nl j c x y;refine⟨q.1,?_⟩;by_cases e:j=i
 . subst e;rw[C4_] at y;cases y
 rw[Cx_ e] at y;have e':c≠b:=λe'=>by subst e';exact e (h.ll _ _ _ _ _ y hi)
 simp[hadd,e'];exact q.2
open Classical in
noncomputable def Rest.plus(N:Rest)(L:Ls):Rest:=
 {N with heap:=λb=>if h:∃ x:Nat×Obj,x.1=b/\∃ i,L i=some x then some h.choose.2 else N.heap b}
theorem Rest.plus_of{N:Rest}{H:Hp}{L:Ls}{w:World}(h:Mem N H L w){i b:Nat}{o:Obj}(hi:L i=some (b,o)):(N.plus L).heap b=some o:=by
 have hx:∃ x:Nat×Obj,x.1=b/\∃ i,L i=some x:=⟨(b,o),rfl,i,hi⟩;simp only[Rest.plus,dif_pos hx];have⟨h1,j,h2⟩:=hx.choose_spec;have h3:=h.l i b o hi;have h4:=h.l j hx.choose.1 hx.choose.2 h2;grind
theorem Rest.plus_cases{N:Rest}{L:Ls}{b:Nat}{o:Obj}(h:(N.plus L).heap b=some o):(∃ i,L i=some (b,o))\/N.heap b=some o:=by
 by_cases hx:∃ x:Nat×Obj,x.1=b/\∃ i,L i=some x;left;simp only[Rest.plus,dif_pos hx] at h;grind;right;simpa only[Rest.plus,dif_neg hx] using h
theorem Mem.frame{N:Rest}{H:Hp}{L:Ls}{w:World}(h:Mem N H L w)(Lc Lr:Ls)(hc:∀ i x,Lc i=some x->∃ j,L j=some x)(hr:∀ i x,Lr i=some x->∃ j,L j=some x)
   (hci:∀ i j x y,Lc i=some x->Lc j=some y->x.1=y.1->i=j) (hri:∀ i j x y,Lr i=some x->Lr j=some y->x.1=y.1->i=j)
   (hd:∀ i j x y,Lc i=some x->Lr j=some y->x.1≠y.1):Mem (N.plus Lr) H Lc w:=by
 have hR:Mem N H Lr w:=h.sub hr hri;have hC:Mem N H Lc w:=h.sub hc hci;refine⟨h.os,h.tape,h.output,λb o x=>?_,h.h,hC.l,λb o x=>?_,λi b o x=>⟨?_,(hC.nl i b o x).2⟩,hC.ll⟩
 . rcases Rest.plus_cases x with ⟨i,hi⟩|hn
   exact hR.l i b o hi
   exact h.n b o hn
 . rcases Rest.plus_cases x with ⟨i,hi⟩|hn
   exact (hR.nl i b o hi).2
   exact h.nh b o hn
 . cases q:(N.plus Lr).heap b with
   |none=>rfl
   |some o'=>
     rcases Rest.plus_cases q with ⟨j,hj⟩|hn
     . grind
     . have :=(hC.nl i b o x).1;rw[this] at hn;cases hn
theorem Mem.unframe{N:Rest}{H H':Hp}{L Lr L' Lj:Ls}{w w':World}(h:Mem N H L w)(hr:∀ i x,Lr i=some x->∃ j,L j=some x)(hri:∀ i j x y,Lr i=some x->Lr j=some y->x.1=y.1->i=j)
   (k:Mem (N.plus Lr) H' L' w') (hj:∀ i x,Lj i=some x->(∃ j,L' j=some x)\/(∃ j,Lr j=some x)) (hji:∀ i j x y,Lj i=some x->Lj j=some y->x.1=y.1->i=j) (hN:∀ b o,N.heap b=some o->∀ i x,Lr i=some x->x.1≠b):Mem N H' Lj w':=by
 have hR:Mem N H Lr w:=h.sub hr hri;have hp:∀ b o,N.heap b=some o->(N.plus Lr).heap b=some o:=λb o x=>by
   have hx:¬∃ y:Nat×Obj,y.1=b/\∃ i,Lr i=some y:=λ⟨y,e,i,hi⟩=>hN b o x i y hi e
   simpa only[Rest.plus,dif_neg hx] using x
 refine⟨k.os,k.tape,k.output,λb o x=>k.n b o (hp b o x),k.h,λi b o x=>?_,λb o x=>k.nh b o (hp b o x),λi b o x=>?_,λi j b o o' x y=>hji i j _ _ x y Y⟩
 . rcases hj i _ x with ⟨j,q⟩|⟨j,q⟩
   exact k.l j b o q
   exact k.n b o (Rest.plus_of hR q)
 . rcases hj i _ x with ⟨j,q⟩|⟨j,q⟩
   . have :=k.nl j b o q
     refine⟨?_,this.2⟩
     cases z:N.heap b with
     |none=>rfl
     |some o'=>rw[hp b o' z] at this;cases this.1
   refine⟨(hR.nl j b o q).1,k.nh b o (Rest.plus_of hR q)⟩
theorem bl1:(∀ a b:Bool,((a||b)=true)=(a=true\/b=true))/\(∀ a b:Bool,((a&&b)=true)=(a=true/\b=true))/\(∀ b:Bool,((!b)=true)=(b=false))/\(∀ (p:Prop) [Decidable p],(decide p=true)=p)/\(∀ x y:Bool,((x||y)=false)↔(x=false/\y=false))/\(∀ x y:Bool,((x&&y)=false)↔(x=false\/y=false))/\(∀ b:Bool,((!b)=false)=(b=true))/\(∀ (p:Prop) [Decidable p],(decide p=false)↔¬p)/\(∀ (α:Type) [BEq α] [LawfulBEq α] (a b:α),((a==b)=true)↔a=b)/\(∀ (α:Type) [BEq α] [LawfulBEq α] (a b:α),((a==b)=false)↔a≠b):=⟨Bool.or_eq_true,A3,λb=>by cases b<;>simp,λ_=>decide_eq_true_eq,λx y=>by cases x<;>cases y<;>simp,λx y=>by cases x<;>cases y<;>simp,λb=>by cases b<;>simp,λ_=>decide_eq_false_iff_not,λ_ _ _ _ _=>beq_iff_eq,λ_ _ _ _ _=>beq_eq_false_iff_ne⟩
theorem bl2:(∀ a b:Bool,((a&&b)=true)=(a=true/\b=true))/\(∀ a b:Bool,((a||b)=true)=(a=true\/b=true))/\(∀ b:Bool,((!b)=true)=(b=false))/\(∀ (p:Prop) [Decidable p],(decide p=true)=p)/\(∀ (p:Prop) [Decidable p],(decide p=false)↔¬p)/\(∀ b:Bool,((!b)=false)=(b=true))/\(∀ b:Bool,(b&&true)=b)/\(∀ b:Bool,(true&&b)=b)/\(∀ (α:Type) (a b:α),cond true a b=a)/\(∀ (α:Type) (a b:α),cond false a b=b):=⟨Bool.and_eq_true,Bool.or_eq_true,λb=>by cases b<;>simp,λ_=>decide_eq_true_eq,λ_=>decide_eq_false_iff_not,λb=>by cases b<;>simp,Bool.and_true,Bool.true_and,λ_ _ _=>rfl,λ_ _ _=>rfl⟩
variable{P:Program}{n:Nat}{N:Rest}
abbrev Qt:=Exit->Fr->Hp->Ls->Prop
def lift(n:Nat)(N:Rest)(Q:Qt):Exit->Act->World->Prop:=λe a w=>∃ F H L,At n a F/\Mem N H L w/\Q e F H L
def Cw(P:Program)(n:Nat)(N:Rest)(c:Code)(Q:Qt)(F:Fr)(H:Hp)(L:Ls):Prop:=
 ∀ a w,At n a F->Mem N H L w->c.wp P (lift n N Q) a w
def Ow(P:Program)(n:Nat)(N:Rest)(ops:List Oper)(rest:List Oper)(Q:Qt)(F:Fr)(H:Hp)(L:Ls):Prop:=
 ∀ a w,At n a F->Mem N H L w->wpList P ops.toArray (lift n N Q) rest a w
def seqK(P:Program)(n:Nat)(N:Rest)(y:Code)(Q:Qt):Qt:=λe F H L=>
 match e with
 | .normal=>Cw P n N y Q F H L
 |e=>Q e F H L
def blkK(id:Nat)(Q:Qt):Qt:=λe F H L=>
 match e with
 | .exit i=>bif AR i id then Q .normal F H L else Q (.exit i) F H L
 |e=>Q e F H L
theorem K8_{x y:Code}{Q:Qt}{F:Fr}{H:Hp}{L:Ls}(h:Cw P n N x (seqK P n N y Q) F H L):Cw P n N (.seq x y) Q F H L:=by
 intro a w ha hm;refine wp_seq (wp_mono (h a w ha hm) λe a' w' q=>?_);have⟨F',H',L',ha',hm',hq⟩:=q
 cases e with
 |normal=>exact hq a' w' ha' hm'
 |_=>exact⟨F',H',L',ha',hm',hq⟩
theorem cw_block{id:Nat}{c:Code}{Q:Qt}{F:Fr}{H:Hp}{L:Ls}(h:Cw P n N c (blkK id Q) F H L):Cw P n N (.block id c) Q F H L:=by
 intro a w ha hm;refine wp_block (wp_mono (h a w ha hm) λe a' w' q=>?_);have⟨F',H',L',ha',hm',hq⟩:=q
 cases e with
 |exit i=>
   simp only[blkK] at hq
   by_cases e:i=id
   . subst e;simp only[GD,if_true];simp only[Nat.beq_refl,cond_true] at hq;exact⟨F',H',L',ha',hm',hq⟩
   . have hb:AR i id=false:=natBeq e
     simp only[GD,if_neg e]
     rw[hb] at hq
     exact⟨F',H',L',ha',hm',hq⟩
 |_=>exact⟨F',H',L',ha',hm',hq⟩
theorem cw_skip{Q:Qt}{F:Fr}{H:Hp}{L:Ls}(h:Q .normal F H L):Cw P n N .skip Q F H L:=λ_ _ ha hm=>wp_skip ⟨F,H,L,ha,hm,h⟩
theorem cw_label{l:Nat}{Q:Qt}{F:Fr}{H:Hp}{L:Ls}(h:Q .normal F H L):Cw P n N (.label l) Q F H L:=λ_ _ ha hm=>wp_label ⟨F,H,L,ha,hm,h⟩
theorem cw_exit{id:Nat}{Q:Qt}{F:Fr}{H:Hp}{L:Ls}(h:Q (.exit id) F H L):Cw P n N (.exit id) Q F H L:=λ_ _ ha hm=>wp_exit ⟨F,H,L,ha,hm,h⟩
theorem cw_ret{Q:Qt}{F:Fr}{H:Hp}{L:Ls}(h:Q .ret F H L):Cw P n N .ret Q F H L:=λ_ _ ha hm=>wp_ret ⟨F,H,L,ha,hm,h⟩
theorem cw_cond{c:Operand}{x y:Code}{b:Bool}{Q:Qt}{F:Fr}{H:Hp}{L:Ls}(hc:ev F c = .bool b)(ht:b=true->Cw P n N x Q F H L)(hf:b=false->Cw P n N y Q F H L):Cw P n N (.cond c x y) Q F H L:=by
 intro a w ha hm;refine wp_cond_split (t:=b) (by rw[ha.eval];exact hc) (λe=>ht e a w ha hm) (λe=>hf e a w ha hm)
theorem cw_cond_t{c:Operand}{x y:Code}{b:Bool}{Q:Qt}{F:Fr}{H:Hp}{L:Ls}(hc:ev F c = .bool b)(hb:b=true)(ht:Cw P n N x Q F H L):Cw P n N (.cond c x y) Q F H L:=
 cw_cond hc (λ_=>ht) (λe=>by rw[hb] at e;cases e)
theorem cw_cond_f{c:Operand}{x y:Code}{b:Bool}{Q:Qt}{F:Fr}{H:Hp}{L:Ls}(hc:ev F c = .bool b)(hb:b=false)(hf:Cw P n N y Q F H L):Cw P n N (.cond c x y) Q F H L:=
 cw_cond hc (λe=>by rw[hb] at e;cases e) (λ_=>hf)
theorem Gi_{id:Nat}{l:List Oper}{Q:Qt}{F:Fr}{H:Hp}{L:Ls}(h:Ow P n N l l Q F H L):Cw P n N (.region id l.toArray false) Q F H L:=
 λa w ha hm=>wp_region_lit (h a w ha hm)
theorem La_{y:Code}{Q:Qt}{F:Fr}{H:Hp}{L:Ls}(h:Cw P n N y Q F H L):seqK P n N y Q .normal F H L:=h
theorem seqK_e{y:Code}{Q:Qt}{F:Fr}{H:Hp}{L:Ls}{i:Nat}(h:Q (.exit i) F H L):seqK P n N y Q (.exit i) F H L:=h
theorem blkK_n{id:Nat}{Q:Qt}{F:Fr}{H:Hp}{L:Ls}(h:Q .normal F H L):blkK id Q .normal F H L:=h
theorem blkK_hit{id:Nat}{Q:Qt}{F:Fr}{H:Hp}{L:Ls}(h:Q .normal F H L):blkK id Q (.exit id) F H L:=by simpa [blkK] using h
def loopK(I:Nat->Fr->Hp->Ls->Prop)(k:Nat)(Q:Qt):Qt:=λe F H L=>
 match e with
 | .normal=>∃ k',k'<k/\I k' F H L
 |e=>Q e F H L
theorem loopK_e{I:Nat->Fr->Hp->Ls->Prop}{k i:Nat}{Q:Qt}{F:Fr}{H:Hp}{L:Ls}(h:Q (.exit i) F H L):loopK I k Q (.exit i) F H L:=h
theorem wp_loop_ix{c:Code}{Q:Exit->Act->World->Prop}{a:Act}{w:World}(I:Nat->Act->World->Prop)(k:Nat)(h0:I k a w)
   (round:∀ k a w,I k a w->c.wp P (Exit.then (λa' w'=>∃ k',k'<k/\I k' a' w') Q) a w):(Code.loop c).wp P Q a w:=by
 intro b t cs;have key:∀ n k a w,k=n->I k a w->∃ e a' w',Q e a' w'/\Arrives P (Go.lone (b.at a (.code c :: .inLoop c::t)) cs w) b t cs e a' w':=by
   intro n
   induction n using Nat.strongRecOn with
   |_ n ih=>
     intro k a w hn hI
     have⟨e,a₁,w₁,hq,harr⟩:=round k a w hI b (.inLoop c::t) cs
     cases e with
     |normal=>
       have⟨k',hlt,hI₁⟩:=hq
       have⟨e₂,a₂,w₂,hq₂,harr₂⟩:=ih k' (hn ▸ hlt) k' a₁ w₁ Y hI₁
       exact⟨e₂,a₂,w₂,hq₂, .of_steps (Steps.trans harr (.one step_inLoop)) harr₂⟩
     |«exit» id=>exact⟨_,a₁,w₁,hq, .pass (x:= .inLoop c) Y (λ_ _=> .inl pC) harr⟩
     |goto l=>exact⟨_,a₁,w₁,hq, .pass (x:= .inLoop c) Y (λ_ _=> .inl pC) harr⟩
     |ret=>exact⟨_,a₁,w₁,hq, .pass (x:= .inLoop c) Y (λ_ _=> .inl pC) harr⟩
     |panic ch=>exact⟨_,a₁,w₁,hq, .pass (x:= .inLoop c) Y (λ_ _=> .inl pC) harr⟩
     |outgrown=>exact⟨_,a₁,w₁,hq, .pass (x:= .inLoop c) Y (λ_ _=> .inl pC) harr⟩
 have⟨e,a',w',hq,harr⟩:=key _ k a w Y h0;exact⟨e,a',w',hq, .of_steps (.one step_loop) harr⟩
theorem cw_loop{c:Code}{Q:Qt}{F:Fr}{H:Hp}{L:Ls}(I:Nat->Fr->Hp->Ls->Prop)(k:Nat)(h0:I k F H L)
   (round:∀ k F H L,I k F H L->Cw P n N c (loopK I k Q) F H L):Cw P n N (.loop c) Q F H L:=by
 intro a w ha hm;refine wp_loop_ix (λk a w=>∃ F H L,At n a F/\Mem N H L w/\I k F H L) k ⟨F,H,L,ha,hm,h0⟩ λk a w hJ=>have⟨F1,H1,L1,ha1,hm1,hI⟩:=hJ;wp_mono (round _ F1 H1 L1 hI a w ha1 hm1) λe a' w' q=>?_;have⟨F',H',L',ha',hm',hq⟩:=q
 cases e with
 |normal=>
   have⟨k',hk',hI'⟩:=hq
   exact⟨k',hk',F',H',L',ha',hm',hI'⟩
 |_=>exact⟨F',H',L',ha',hm',hq⟩
theorem cw_weaken{c:Code}{Q:Qt}{F:Fr}{H H':Hp}{L L':Ls}(hm:∀ w,Mem N H L w->Mem N H' L' w)(h:Cw P n N c Q F H' L'):Cw P n N c Q F H L:=λa w ha hw=>h a w ha (hm w hw)
theorem Lb_{c:Code}{Q Q':Qt}{F:Fr}{H:Hp}{L:Ls}(hq:∀ e F H L,Q e F H L->Q' e F H L)(h:Cw P n N c Q F H L):Cw P n N c Q' F H L:=
 λa w ha hw=>wp_mono (h a w ha hw) λe _ _ ⟨F,H,L,x,y,z⟩=>⟨F,H,L,x,y,hq e F H L z⟩
def Lo(P:Program)(N:Rest)(op:Op)(ty:TypeId)(F:Fr)(H:Hp)(L:Ls)(v:Value):Prop:=
 ∀ (d:Option Tmp) (pos:String) (af:Array Edge) (g:Option (Nat×Bool)) w,Mem N H L w->(execOp (ev F) ⟨d,op,ty,pos,af,g⟩).run P w = .ok (.value v) w
theorem L5_{ops:List Oper}{Q:Qt}{F:Fr}{H:Hp}{L:Ls}(h:Q .normal F H L):Ow P n N ops [] Q F H L:=λ_ _ ha hm=>⟨F,H,L,ha,hm,h⟩
def Op1(P:Program)(n:Nat)(N:Rest)(ops:List Oper)(o:Oper)(K:Fr->Hp->Ls->Prop)(F:Fr)(H:Hp)(L:Ls):Prop:=
 ∀ a w,At n a F->Mem N H L w ->
   if C0 o (yielded ops.toArray a.tmps) then o.wp P a w (λa' w'=>∃ F' H' L',At n a' F'/\Mem N H' L' w'/\K F' H' L') (λ_ _ _=>False)
   else ∃ F' H' L',At n (a.put o.dst undef) F'/\Mem N H' L' w/\K F' H' L'
theorem Vy_{o:Oper}{a:Act}{K K':Act->World->Prop}{Q Q':Exit->Act->World->Prop}{r:Result Next}(hk:∀ a w,K a w->K' a w)(hq:∀ e a w,Q e a w->Q' e a w)(h:o.upon P a K Q r):o.upon P a K' Q' r:=by
 cases r with
 |ok m w'=>
   cases m<;>simp only[DM] at h ⊢ <;>
     first
       |exact hk _ _ h
       |exact GK h (λe w'' he=>by cases e<;>first|exact hk _ _ he|exact hq _ _ _ he|(have⟨a,w,q⟩:=he;exact⟨a,w,hq _ _ _ q⟩))
       |exact GW h (λ_ _ he=>hk _ _ he)
 |halt x w'=>cases x<;>simp only[DM] at h ⊢ <;>first|exact hq _ _ _ h|exact h
theorem ow1{ops rest:List Oper}{o:Oper}{Q:Qt}{F:Fr}{H:Hp}{L:Ls}(h:Op1 P n N ops o (λF H L=>Ow P n N ops rest Q F H L) F H L):Ow P n N ops (o::rest) Q F H L:=by
 intro a w ha hm;have :=h a w ha hm;unfold wpList
 split
 . rename_i hw
   rw[if_pos hw] at this
   left
   exact Vy_ (λa' w' ⟨F',H',L',x,y,z⟩=>z a' w' x y) (λ_ _ _ x=>x.elim) this
 . rename_i hw
   rw[if_neg hw] at this
   have⟨F',H',L',x,y,z⟩:=this
   exact z _ _ x y
theorem Q0_{ops:List Oper}{op:Op}{ty d:Nat}{pos:String}{af:Array Edge}{K:Fr->Hp->Ls->Prop}{F:Fr}{H:Hp}{L:Ls}{v:Value}(hd:Nat.blt d n=true)(h:Lo P N op ty F H L v)
   (k:K (upd F d v) H L):Op1 P n N ops ⟨some d,op,ty,pos,af,none⟩ K F H L:=by
 intro a w ha hm;rw[if_pos pH];exact rT
def yF(ops:List Oper)(F:Fr)(j:Nat):Option Value:=(ops[j]?).bind (λo=>o.dst.map F)
theorem Lu_{ops:List Oper}{F:Fr}{a:Act}(ha:At n a F){j:Nat}{b:Bool}(h:yF ops F j=some (.bool b)):yielded ops.toArray a.tmps j=some b:=by
 unfold yF at h;unfold yielded
 cases ho:ops[j]? with
 |none=>rw[ho] at h;cases h
 |some o=>
   rw[ho] at h
   simp only[BV] at h
   cases hd:o.dst with
   |none=>rw[hd] at h;cases h
   |some d=>
     rw[hd] at h
     simp only[C1,Option.some.injEq] at h
     have hg:=ha.get d
     rw[h] at hg
     simp only[ER,ho,BV,hd]
     cases hx:a.tmps[d]? with
     |none=>simp[AD,hx,undef] at hg
     |some v=>
       simp_all
theorem op1_g{ops:List Oper}{op:Op}{ty d j:Nat}{want b:Bool}{pos:String}{af:Array Edge}{K:Fr->Hp->Ls->Prop}{F:Fr}{H:Hp}{L:Ls}{v:Value}(hy:yF ops F j=some (.bool b))(hb:b=want)(hd:Nat.blt d n=true)(h:Lo P N op ty F H L v)
   (k:K (upd F d v) H L):Op1 P n N ops ⟨some d,op,ty,pos,af,some (j,want)⟩ K F H L:=by
 intro a w ha hm;rw[if_pos oU];exact rT
theorem op1_gs{ops:List Oper}{op:Op}{ty d j:Nat}{want b:Bool}{pos:String}{af:Array Edge}{K:Fr->Hp->Ls->Prop}{F:Fr}{H:Hp}{L:Ls}(hy:yF ops F j=some (.bool b))(hb:b=!want)(hd:Nat.blt d n=true)
   (k:K (upd F d undef) H L):Op1 P n N ops ⟨some d,op,ty,pos,af,some (j,want)⟩ K F H L:=by
 intro a w ha hm;rw[if_neg oU];exact⟨_,_,_,ha.put pI _,hm,k⟩
theorem yielded_undef{ops:List Oper}{F:Fr}{a:Act}(ha:At n a F){j:Nat}(h:yF ops F j=some undef):yielded ops.toArray a.tmps j=none:=by
 unfold yF at h;unfold yielded
 cases ho:ops[j]? with
 |none=>rw[ho] at h;cases h
 |some o=>
   rw[ho] at h
   simp only[BV] at h
   cases hd:o.dst with
   |none=>rw[hd] at h;cases h
   |some d=>
     rw[hd] at h
     simp only[C1,Option.some.injEq] at h
     have hg:=ha.get d
     rw[h] at hg
     simp only[ER,ho,BV,hd]
     cases hx:a.tmps[d]? with
     |none=>rfl
     |some v=>
       simp[AD,hx] at hg
       subst hg;rfl
section ops
variable{F:Fr}{H:Hp}{L:Ls}{ty:TypeId}
theorem Lf_{x:Operand}{v:Value}(h:ev F x=v):Lo P N (.move x) ty F H L v:=λ_ _ _ _ w _=>by subst h;rfl
theorem M8_{x:Operand}{v:Value}(h:ev F x=v):Lo P N (.assign x) ty F H L v:=λ_ _ _ _ w _=>by subst h;rfl
theorem G0_{op:BinOp}{T T':TypeId}{x y:Operand}{a b v:Value}(hx:ev F x=a)(hy:ev F y=b)(hg:∀ w,(eqGuard op T x y a b).run P w = .ok () w)(h:∀ w,(binOp op T a b).run P w = .ok v w):Lo P N (.binOp op T x y T') ty F H L v:=λ_ _ _ _ w _=>by
 subst hx;subst hy
 simp[execOp,hg w,h w]
theorem En_{op:BinOp}{T:TypeId}{x y:Operand}{k k':IntKind}{a b:Int}(w:World):(eqGuard op T x y (.int k a) (.int k' b)).run P w = .ok () w:=by
 exact zC
theorem Pf_{op:BinOp}{T:TypeId}{x y:Operand}{a b:ByteArray}(w:World):(eqGuard op T x y (.string a) (.string b)).run P w = .ok () w:=by
 exact zC
theorem V1_{op:BinOp}{T:TypeId}{x y:Operand}{a b:Bool}(w:World):(eqGuard op T x y (.bool a) (.bool b)).run P w = .ok () w:=by
 exact zC
theorem Pe_{op:BinOp}{T:TypeId}{x y:Operand}{a b:Option Addr}(w:World):(eqGuard op T x y (.pointer a) (.pointer b)).run P w = .ok () w:=by
 exact zC
variable{T T':TypeId}{x y:Operand}{k k':IntKind}{a b:Int}
theorem intBeq(a b:Int):(a==b) = decide (a=b):=rfl
theorem lo_eql(hx:ev F x = .int k a)(hy:ev F y = .int k b):Lo P N (.binOp .eql T x y T') ty F H L (.bool (decide (a=b))):=
 G0_ hx hy (En_) λw=>by simp[binOp,DC,intBeq]
theorem lo_neq(hx:ev F x = .int k a)(hy:ev F y = .int k b):Lo P N (.binOp .neq T x y T') ty F H L (.bool (!decide (a=b))):=
 G0_ hx hy (En_) λw=>by simp[binOp,DC,bne,intBeq]
theorem lo_lss(hx:ev F x = .int k a)(hy:ev F y = .int k b):Lo P N (.binOp .lss T x y T') ty F H L (.bool (decide (a<b))):=
 G0_ hx hy (En_) λw=>by simp[binOp,DC]
theorem lo_leq(hx:ev F x = .int k a)(hy:ev F y = .int k b):Lo P N (.binOp .leq T x y T') ty F H L (.bool (decide (a<=b))):=
 G0_ hx hy (En_) λw=>by simp[binOp,DC]
theorem lo_gtr(hx:ev F x = .int k a)(hy:ev F y = .int k b):Lo P N (.binOp .gtr T x y T') ty F H L (.bool (decide (b<a))):=
 G0_ hx hy (En_) λw=>by simp[binOp,DC]
theorem lo_geq(hx:ev F x = .int k a)(hy:ev F y = .int k b):Lo P N (.binOp .geq T x y T') ty F H L (.bool (decide (b<=a))):=
 G0_ hx hy (En_) λw=>by simp[binOp,DC]
theorem lo_add_w(hx:ev F x = .int k a)(hy:ev F y = .int k b):Lo P N (.binOp .add T x y T') ty F H L (.int k (k.wrap (a+b))):=
 G0_ hx hy (En_) λw=>by simp[binOp,FC]
theorem lo_sub_w(hx:ev F x = .int k a)(hy:ev F y = .int k b):Lo P N (.binOp .sub T x y T') ty F H L (.int k (k.wrap (a-b))):=
 G0_ hx hy (En_) λw=>by simp[binOp,FC]
theorem lo_mul_w(hx:ev F x = .int k a)(hy:ev F y = .int k b):Lo P N (.binOp .mul T x y T') ty F H L (.int k (k.wrap (a*b))):=
 G0_ hx hy (En_) λw=>by simp[binOp,FC]
theorem Rj_{k:IntKind}{z:Int}(h:k.min<=z/\z<=k.max):k.wrap z=z:=by
 cases k<;>simp[A0,EJ,DH,AO,D1] at * <;>omega
end ops
theorem ol{ops rest:List Oper}{Q:Qt}{op:Op}{ty d:Nat}{pos:String}{af:Array Edge}{F:Fr}{H:Hp}{L:Ls}{v:Value}(hd:Nat.blt d n=true)(h:Lo P N op ty F H L v)(k:Ow P n N ops rest Q (upd F d v) H L):Ow P n N ops (⟨some d,op,ty,pos,af,none⟩::rest) Q F H L:=ow1 (Q0_ hd h k)
def Pr(P:Program)(f:FuncId)(args:Array Value)(H:Hp)(v:Value):Prop:=
 ∀ N L w,Mem N H L w->Calls P f args w λe w'=>e = .returned v/\Mem N H L w'
def Ph(P:Program)(f:FuncId)(args:Array Value)(H:Hp)(R:Value->Hp->Prop):Prop:=
 ∀ N L w,Mem N H L w->Calls P f args w λe w'=>∃ v H',e = .returned v/\R v H'/\HLe H H'/\Mem N H' L w'
def Pm(P:Program)(f:FuncId)(args:Array Value)(H:Hp)(b:Nat)(o:Obj)(R:Value->Hp->Obj->Prop):Prop:=
 ∀ N L w i,L i=some (b,o)->Mem N H L w->Calls P f args w λe w'=>∃ v H' o',e = .returned v/\R v H' o'/\HLe H H'/\Mem N H' (lupd L i (some (b,o'))) w'
def Pn(P:Program)(f:FuncId)(args:Array Value)(H:Hp)(R:Value->Hp->Nat->Obj->Prop):Prop:=
 ∀ N L w i,Mem N H L w->Calls P f args w λe w'=>∃ v H' b o,e = .returned v/\R v H' b o/\HLe H H'/\Mem N H' (lupd L i (some (b,o))) w'
def Res(P:Program)(N:Rest)(fn:Func)(F:Fr)(H:Hp)(L:Ls)(v:Value):Prop:=∀ (w:World) (tmps:Array Value),(∀ t,tmps.getD t undef=F t)->Mem N H L w->(results fn tmps).run P w = .ok v w
def rvS(tmps:Array Value)(r:ResultVar):Sem Value:=match r with
 | .tmp t=>pure (tmps.getD t undef)
 | .cell a t=>do loadVar t (<- asAddr (tmps.getD a undef))
def RV(P:Program)(N:Rest)(F:Fr)(H:Hp)(L:Ls)(r:ResultVar)(v:Value):Prop:=∀ (w:World) (tmps:Array Value),(∀ t,tmps.getD t undef=F t)->Mem N H L w->(rvS tmps r).run P w = .ok v w
section
variable{F:Fr}{H:Hp}{L:Ls}
theorem Sj_(fn:Func)(tmps:Array Value):results fn tmps=(do let vs <- fn.results.mapM (rvS tmps);pure (if h:vs.size=1 then vs[0] else .tuple vs)):=rfl
theorem rv_t{t:Tmp}{v:Value}(hv:F t=v):RV P N F H L (.tmp t) v:=λw tmps ht _=>by
 show Result.ok (tmps.getD t undef) w=_
 rw[ht,hv]
theorem res0{fn:Func}(h:fn.results = #[]):Res P N fn F H L (.tuple #[]):=λw tmps _ _=>results_none h tmps P w
theorem res1{fn:Func}{r:ResultVar}{v:Value}(h:fn.results = #[r])(hv:RV P N F H L r v):Res P N fn F H L v:=λw tmps ht hm=>by
 have :=hv w tmps ht hm
 simp[Sj_,h,this]
end
def fnK(P:Program)(N:Rest)(fn:Func)(H0:Hp)(R:Value->Hp->Ls->Prop):Qt:=λe F H L=>
 match e with
 | .normal=>∃ v,Res P N fn F H L v/\HLe H0 H/\R v H L
 | .ret=>∃ v,Res P N fn F H L v/\HLe H0 H/\R v H L
 |_=>False
theorem fnK_r{fn:Func}{H0:Hp}{R:Value->Hp->Ls->Prop}{F:Fr}{H:Hp}{L:Ls}{v:Value}(hr:Res P N fn F H L v)(hl:HLe H0 H)(h:R v H L):fnK P N fn H0 R .ret F H L:=⟨v,hr,hl,h⟩
theorem fnK_n{fn:Func}{H0:Hp}{R:Value->Hp->Ls->Prop}{F:Fr}{H:Hp}{L:Ls}{v:Value}(hr:Res P N fn F H L v)(hl:HLe H0 H)(h:R v H L):fnK P N fn H0 R .normal F H L:=⟨v,hr,hl,h⟩
def L0_(args:Array Value):Fr:=λt=>args.toList.getD t undef
theorem At.init{args:Array Value}{m:Nat}(h:args.size<=m):At m {tmps:=args++Array.replicate (m-args.size) undef,defers:=[]} (L0_ args):=by
 refine⟨by simp;omega,λt=>?_,rfl⟩;simp only[L0_,AD,Array.getElem?_append,List.getD_eq_getElem?_getD,Array.getElem?_toList];grind
theorem I1_{f:FuncId}{fn:Func}{c:Code}{args:Array Value}{H H0:Hp}{L:Ls}{R:Value->Hp->Ls->Prop}{w:World}{R':Ending->World->Prop}(hf:P.funcs[f]? = some fn)(hb:fn.body=some c)(hs:args.size<=fn.ntmps)
   (h:Cw P fn.ntmps N c (fnK P N fn H0 R) (L0_ args) H L) (hm:Mem N H L w) (hR:∀ v H' L' w',R v H' L'->HLe H0 H'->Mem N H' L' w'->R' (.returned v) w'):Calls P f args w R':=by
 refine calls_of_wp hf hb (wp_mono (h _ w (At.init hs) hm) λe a' w' q=>?_);have⟨F',H',L',ha',hm',hq⟩:=q
 cases e with
 |normal=>have⟨v,hr,hl,hR1⟩:=hq;exact⟨ha'.defers,v,hr w' a'.tmps ha'.get hm',hR v H' L' w' hR1 hl hm'⟩
 |ret=>have⟨v,hr,hl,hR1⟩:=hq;exact⟨ha'.defers,v,hr w' a'.tmps ha'.get hm',hR v H' L' w' hR1 hl hm'⟩
 |_=>exact hq.elim
theorem Mem.inj{N:Rest}{H:Hp}{L:Ls}{w:World}(h:Mem N H L w):∀ i j (x y:Nat×Obj),L i=some x->L j=some y->x.1=y.1->i=j:=λi j x y p q e=>by
 have⟨b,o⟩:=x;have⟨b',o'⟩:=y
 cases (show b=b' from e)
 exact h.ll i j b o o' p q
theorem Mem.nBoth{N:Rest}{H:Hp}{L:Ls}{w:World}(h:Mem N H L w):∀ b o,N.heap b=some o->∀ i (x:Nat×Obj),L i=some x->x.1≠b:=λb o p i x q e=>by
 have⟨b',o'⟩:=x
 cases (show b'=b from e)
 rw[(h.nl i _ _ q).1] at p;cases p
theorem Mem.aside{N:Rest}{H:Hp}{L:Ls}{w:World}(h:Mem N H L w):Mem (N.plus L) H l0 w:=
 h.frame l0 L (λ_ _ x=>by cases x) (λi x y=>⟨i,y⟩) (λ_ _ _ _ x=>by cases x) h.inj (λ_ _ _ _ x=>by cases x)
theorem Mem.back{N:Rest}{H H':Hp}{L L':Ls}{w w':World}(h:Mem N H L w)(k:Mem (N.plus L) H' L' w'):Mem N H' L w':=
 h.unframe (λi _ y=>⟨i,y⟩) h.inj k (λi _ y=> .inr ⟨i,y⟩) h.inj h.nBoth
theorem Mem.le{N:Rest}{H H':Hp}{L:Ls}{w:World}(h:Mem N H' L w)(hl:HLe H H'):Mem N H L w:=by
 have hn:∀ b,H' b=none->H b=none:=λb x=>by
   cases q:H b with
   |none=>rfl
   |some o=>rw[hl b o q] at x;cases x
 exact⟨h.os,h.tape,h.output,h.n,λb o x=>h.h b o (hl b o x),h.l,λb o x=>hn b (h.nh b o x),λi b o x=>⟨(h.nl i b o x).1,hn b (h.nl i b o x).2⟩,h.ll⟩
theorem pr_of_cw{f:FuncId}{fn:Func}{c:Code}{args:Array Value}{H:Hp}{v:Value}(hf:P.funcs[f]? = some fn)(hb:fn.body=some c)(hs:args.size<=fn.ntmps)
   (h:∀ N,Cw P fn.ntmps N c (fnK P N fn H (λv' _ _=>v'=v)) (L0_ args) H l0):Pr P f args H v:=
 λN L _ hm=>I1_ hf hb hs (h (N.plus L)) hm.aside λv' _ _ _ hv hl hm'=>by
   subst hv;exact⟨rfl,(hm.back hm').le hl⟩
theorem ph_of_cw{f:FuncId}{fn:Func}{c:Code}{args:Array Value}{H:Hp}{R:Value->Hp->Prop}(hf:P.funcs[f]? = some fn)(hb:fn.body=some c)(hs:args.size<=fn.ntmps)
   (h:∀ N,Cw P fn.ntmps N c (fnK P N fn H (λv' H' _=>R v' H')) (L0_ args) H l0):Ph P f args H R:=
 λN L _ hm=>I1_ hf hb hs (h (N.plus L)) hm.aside λv' H' _ _ hv hl hm'=>⟨v',H',rfl,hv,hl,hm.back hm'⟩
theorem ofL1{x:Nat×Obj}{i:Nat}{y:Nat×Obj}(h:ofL [x] i=some y):i=0/\y=x:=by
 unfold ofL at h;grind
theorem Ym_{L:Ls}{i j:Nat}{x:Nat×Obj}(h:lupd L i none j=some x):j≠i/\L j=some x:=by
 by_cases e:j=i
 . subst e;rw[C4_] at h;cases h
 rw[Cx_ e] at h;exact⟨e,h⟩
theorem Mem.asideBut{N:Rest}{H:Hp}{L:Ls}{w:World}{i b:Nat}{o:Obj}(h:Mem N H L w)(hi:L i=some (b,o)):Mem (N.plus (lupd L i none)) H (ofL [(b,o)]) w:=by
 refine h.frame _ _ (λj x y=>?_) (λj x y=>⟨j,(Ym_ y).2⟩) (λj k x y p q _=>?_) (h.clear i).inj (λj k x y p q e=>?_);obtain⟨_,rfl⟩:=ofL1 y;exact⟨i,hi⟩;rw[(ofL1 p).1,(ofL1 q).1];obtain⟨_,rfl⟩:=ofL1 p;have⟨q1,q2⟩:=Ym_ q;exact q1 (h.inj _ _ _ _ q2 hi e.symm)
theorem Mem.backWith{N:Rest}{H H':Hp}{L L':Ls}{w w':World}{i k b:Nat}{o':Obj}(h:Mem N H L w)(hk:Mem (N.plus (lupd L i none)) H' L' w')(hb:L' k=some (b,o')):Mem N H' (lupd L i (some (b,o'))) w':=by
 refine h.unframe (Lr:=lupd L i none) (λj _ y=>⟨j,(Ym_ y).2⟩) (h.clear i).inj hk (λj x y=>?_) (λj j' x y p q e=>?_) (h.clear i).nBoth;by_cases e:j=i
 . subst e;rw[C4_] at y;cases y;exact .inl ⟨k,hb⟩
 rw[Cx_ e] at y;exact .inr ⟨j,by rw[Cx_ e];exact y⟩;have hn:=(hk.nl k b o' hb).1;have key:∀ m (z:Nat×Obj),m≠i->lupd L i (some (b,o')) m=some z->z.1≠b:=λm z hm hz e=>by
   rw[Cx_ hm] at hz
   have⟨zb,zo⟩:=z
   have e':zb=b:=e
   have :(N.plus (lupd L i none)).heap zb=some zo:=Rest.plus_of (h.clear i) (i:=m) (by rw[Cx_ hm];exact hz)
   grind
 by_cases e1:j=i;by_cases e2:j'=i;omega
 . subst e1;rw[C4_] at p;cases p
   grind
 by_cases e2:j'=i
 . subst e2;rw[C4_] at q;cases q
   grind
 rw[Cx_ e1] at p;rw[Cx_ e2] at q;exact h.inj _ _ _ _ p q e
theorem pm_of_cw{f:FuncId}{fn:Func}{c:Code}{args:Array Value}{H:Hp}{b:Nat}{o:Obj}{R:Value->Hp->Obj->Prop}(hf:P.funcs[f]? = some fn)(hb:fn.body=some c)(hs:args.size<=fn.ntmps)
   (h:∀ N,Cw P fn.ntmps N c (fnK P N fn H (λv' H' L'=>∃ o',L' 0=some (b,o')/\R v' H' o')) (L0_ args) H (ofL [(b,o)])):Pm P f args H b o R:=
 λN L _ i hi hm=>I1_ hf hb hs (h (N.plus (lupd L i none))) (hm.asideBut hi) λv' H' _ _ ⟨o',ho',hv⟩ hl hm'=>⟨v',H',o',rfl,hv,hl,hm.backWith hm' ho'⟩
theorem pn_of_cw{f:FuncId}{fn:Func}{c:Code}{args:Array Value}{H:Hp}{R:Value->Hp->Nat->Obj->Prop}(hf:P.funcs[f]? = some fn)(hb:fn.body=some c)(hs:args.size<=fn.ntmps)
   (h:∀ N,Cw P fn.ntmps N c (fnK P N fn H (λv' H' L'=>∃ k b o',L' k=some (b,o')/\R v' H' b o')) (L0_ args) H l0):Pn P f args H R:=
 λN L _ i hm=>I1_ hf hb hs (h (N.plus (lupd L i none))) (hm.clear i).aside λv' H' _ _ ⟨_,b,o',ho',hv⟩ hl hm'=>⟨v',H',b,o',rfl,hv,hl,hm.backWith hm' ho'⟩
def A4_(P:Program)(f:FuncId):Prop:=∀ args w,(callFunc f args).run P w = .ok (.enter f args) w
theorem At_{f:FuncId}{fn:Func}(hf:P.funcs[f]? = some fn)(hn:(fn.name == "runtime.NumGoroutine")=false:=by exact qY)(hb:fn.body.isNone=false:=by exact qY):A4_ P f:=λargs w=>by
 have h1:¬fn.name = "runtime.NumGoroutine" :=by simpa using hn
 have h2:¬fn.body=none:=λe=>by rw[e] at hb;cases hb
 simp[callFunc,hf,h1,h2]
def evs(F:Fr):List Operand->List Value
 |[]=>[]
 |x::r=>ev F x::evs F r
theorem evs_map(F:Fr)(l:List Operand):l.map (ev F)=evs F l:=by
 induction l with
 |nil=>rfl
 |cons x r ih=>simp[evs,ih]
def En(P:Program)(op:Op)(F:Fr)(f:FuncId)(args:Array Value):Prop:=
 ∀ (ty:TypeId) (d:Option Tmp) (pos:String) (af:Array Edge) (g:Option (Nat×Bool)) w,(execOp (ev F) ⟨d,op,ty,pos,af,g⟩).run P w = .ok (.enter f args) w
theorem en_f{F:Fr}{f:FuncId}{xs:List Operand}{vs:List Value}{ats:Array TypeId}(hc:A4_ P f)(ha:evs F xs=vs):En P (.call ⟨.value (.func f),xs.toArray,ats⟩) F f vs.toArray:=λty d pos af g w=>by
 subst ha
 have :=hc (evs F xs).toArray w
 simp[execOp,resolve,F0,ev,invoke,evs_map,this]
variable{ops:List Oper}{op:Op}{ty:TypeId}{d:Nat}{pos:String}{af:Array Edge}{K:Fr->Hp->Ls->Prop}{F:Fr}{H:Hp}{L:Ls}{f:FuncId}{args:Array Value}
theorem op1_ph{R:Value->Hp->Prop}(h:Ph P f args H R)(he:En P op F f args)(hd:Nat.blt d n=true)(k:∀ v H',R v H'->HLe H H'->K (upd F d v) H' L):Op1 P n N ops ⟨some d,op,ty,pos,af,none⟩ K F H L:=by
 intro a w ha hm;rw[if_pos pH];unfold BG;rw[ha.eval,he];refine (h N L w hm).mono λe w' ⟨v,H',he',hr,hl,hm'⟩=>?_;subst he';exact⟨_,_,_,ha.put pI v,hm',k v H' hr hl⟩
theorem Mem.part{N:Rest}{H H':Hp}{L:Ls}{w:World}(h:Mem N H' L w)(hl:HLe H H'):∃ N',(∀ L w,Mem N' H L w↔Mem N H' L w):=by
 classical
 refine⟨{N with heap:=λb=>if (H b).isSome then N.heap b else (H' b).or (N.heap b)},λL w=>⟨λk=>?_,λk=>?_⟩⟩
 have hn:∀ b o,N.heap b=some o->H' b=none:=h.nh;refine⟨k.os,k.tape,k.output,λb o x=>?_,λb o x=>?_,k.l,hn,λi b o x=>?_,k.ll⟩;refine k.n b o ?_;grind;by_cases q:(H b).isSome
 . have⟨y,hy⟩:=Option.isSome_iff_exists.1 q
   have :=hl b y hy;rw[x] at this;cases this;exact k.h b o hy
 refine k.n b o ?_;simp[q,x];have⟨p1,p2⟩:=k.nl i b o x;grind;refine⟨k.os,k.tape,k.output,λb o x=>?_,λb o x=>k.h b o (hl b o x),k.l,λb o x=>?_,λi b o x=>?_,k.ll⟩;by_cases q:(H b).isSome;simp only[q,if_true] at x;exact k.n b o x
 . simp only[q] at x
   cases z:H' b with
   |none=>rw[z] at x;exact k.n b o (by simpa using x)
   |some y=>rw[z] at x;simp at x;subst x;exact k.h b _ z
 by_cases q:(H b).isSome
 . simp only[q,if_true] at x
   have :=k.nh b o x
   have⟨y,hy⟩:=Option.isSome_iff_exists.1 q
   rw[hl b y hy] at this;cases this
 simpa using q
 . have⟨p1,p2⟩:=k.nl i b o x
   have :H b=none:=by
     cases q:H b with
     |none=>rfl
     |some y=>rw[hl b y q] at p2;cases p2
   simp[this,p1,p2]
theorem Pr.le{H':Hp}{v:Value}(h:Pr P f args H v)(hl:HLe H H'):Pr P f args H' v:=λN L w hm=>by
 have⟨N',hN⟩:=hm.part hl
 exact (h N' L w ((hN L w).2 hm)).mono λe w' ⟨he,hw⟩=>⟨he,(hN L w').1 hw⟩
theorem og{ops rest:List Oper}{Q:Qt}{op:Op}{ty d j:Nat}{want b:Bool}{pos:String}{af:Array Edge}{F:Fr}{H:Hp}{L:Ls}(hy:yF ops F j=some (.bool b))(hb:b=!want)(hd:Nat.blt d n=true)(k:Ow P n N ops rest Q (upd F d undef) H L):Ow P n N ops (⟨some d,op,ty,pos,af,some (j,want)⟩::rest) Q F H L:=ow1 (op1_gs hy hb hd k)
theorem oab{ops rest:List Oper}{Q:Qt}{x:Operand}{ty d:Nat}{b:Bool}{pos:String}{af:Array Edge}{F:Fr}{H:Hp}{L:Ls}(hd:Nat.blt d n=true)(hx:ev F x = .bool b)(k:Ow P n N ops rest Q (upd F d (.bool b)) H L):Ow P n N ops (⟨some d, .assign x,ty,pos,af,none⟩::rest) Q F H L:=ow1 (Q0_ hd (M8_ hx) k)
theorem omb{ops rest:List Oper}{Q:Qt}{x:Operand}{ty d:Nat}{b:Bool}{pos:String}{af:Array Edge}{F:Fr}{H:Hp}{L:Ls}(hd:Nat.blt d n=true)(hx:ev F x = .bool b)(k:Ow P n N ops rest Q (upd F d (.bool b)) H L):Ow P n N ops (⟨some d, .move x,ty,pos,af,none⟩::rest) Q F H L:=ow1 (Q0_ hd (Lf_ hx) k)
theorem oai{ops rest:List Oper}{Q:Qt}{x:Operand}{ty d:Nat}{kd:IntKind}{b:Int}{pos:String}{af:Array Edge}{F:Fr}{H:Hp}{L:Ls}(hd:Nat.blt d n=true)(hx:ev F x = .int kd b)(k:Ow P n N ops rest Q (upd F d (.int kd b)) H L):Ow P n N ops (⟨some d, .assign x,ty,pos,af,none⟩::rest) Q F H L:=ow1 (Q0_ hd (M8_ hx) k)
theorem omi{ops rest:List Oper}{Q:Qt}{x:Operand}{ty d:Nat}{kd:IntKind}{b:Int}{pos:String}{af:Array Edge}{F:Fr}{H:Hp}{L:Ls}(hd:Nat.blt d n=true)(hx:ev F x = .int kd b)(k:Ow P n N ops rest Q (upd F d (.int kd b)) H L):Ow P n N ops (⟨some d, .move x,ty,pos,af,none⟩::rest) Q F H L:=ow1 (Q0_ hd (Lf_ hx) k)
end Go.SW
namespace Go.SW
variable{P:Program}{n:Nat}{N:Rest}
def LLe(L L':Ls):Prop:=∀ i x,L i=some x->L' i=some x
theorem LLe.refl(L:Ls):LLe L L:=λ_ _ h=>h
theorem At.uniq{a:Act}{F G:Fr}(h:At n a F)(k:At n a G):F=G:=funext λt=>(h.get t).symm.trans (k.get t)
def NoQ:Exit->Act->World->Prop:=λ_ _ _=>False
def tailB(ops:List Oper)(listed:Array Bool)(i:Nat):Bool:=
 (FD ops.length).all λj=>!listed.getD j false||((ops[i]?).map λo=>o.after.any λe=>e.on==j&&CV .any e).getD false
def Qx_(o:Op):Bool:=match o with
 | .load .. =>true
 | .convert .. =>true
 |_=>false
abbrev lkOf(o:Op)(Lk:Ls):Ls:=match o with
 | .load .. =>Lk
 | .convert .. =>Lk
 |_=>λ_=>none
theorem K9_{L:Ls}:LLe (λ_=>none) L:=λ_ _ h=>by cases h
theorem Rt_(o:Op)(Lk:Ls):(Qx_ o=true/\lkOf o Lk=Lk)\/lkOf o Lk = λ_=>none:=by
 cases o<;>first|exact .inl ⟨rfl,rfl⟩|exact .inr Y
def tailP(ops:List Oper)(listed:Array Bool)(i:Nat):Bool:=
 (FD ops.length).all λj=>!listed.getD j false||((ops[j]?).map λo=>!Qx_ o.op).getD true||((ops[i]?).map λo=>o.after.any λe=>e.on==j&&CV .any e).getD false
def Vw(P:Program)(n:Nat)(N:Rest)(ops:List Oper)(Lk:Ls)(Q:Qt):Nat->Array Bool->Fr->Hp->Ls->Prop
 |0,listed,F,H,L=>CF .any ops.toArray listed=[]/\Q .normal F H L
 |fuel+1,listed,F,H,L=>(CF .any ops.toArray listed=[]->Q .normal F H L) /\
   ∀ i∈CF .any ops.toArray listed,∀ a w,At n a F->Mem N H L w ->
     wpOp P ops.toArray NoQ i (λa' w'=>∃ F' H' L',At n a' F'/\Mem N H' L' w'/\((HLe H H'/\(LLe Lk L'\/L'=L\/tailP ops listed i=true))\/tailB ops listed i=true)/\Vw P n N ops Lk Q fuel (listed.setIfInBounds i true) F' H' L') a w
theorem wpOp_monoQ{ops:Array Oper}{i:Nat}{a:Act}{w:World}{K K':Act->World->Prop}{Q Q':Exit->Act->World->Prop}(hk:∀ a w,K a w->K' a w)(hq:∀ e a w,Q e a w->Q' e a w)(h:wpOp P ops Q i K a w):wpOp P ops Q' i K' a w:=by
 unfold wpOp at *
 split
 grind
 . rename_i o ho
   rw[ho] at h
   split
   . rename_i hw
     simp only[hw,if_true] at h
     rcases h with h|⟨h1,a1,w1,h2⟩
     exact .inl (Vy_ hk hq h)
     exact .inr ⟨h1,a1,w1,hq _ _ _ h2⟩
   grind
theorem vw_any{ops:List Oper}{Lk:Ls}{Q:Qt}:∀ (fuel:Nat) (listed:Array Bool) (F:Fr) (H:Hp) (L:Ls),Vw P n N ops Lk Q fuel listed F H L->∀ a w,At n a F->Mem N H L w->wpAny P .any ops.toArray (lift n N Q) fuel listed a w
 |0,_,F,H,L,h,_,_,ha,hm=>⟨h.1,F,H,L,ha,hm,h.2⟩
 | fuel+1,_,F,H,L,h,a,w,ha,hm=>⟨λhr=>⟨F,H,L,ha,hm,h.1 hr⟩,λi hi=>
     wpOp_monoQ (λa' w' ⟨F',H',L',x,y,_,z⟩=>vw_any fuel _ F' H' L' z a' w' x y) (λ_ _ _ x=>x.elim) (h.2 i hi a w ha hm)⟩
theorem cw_any{id:Nat}{l:List Oper}{Q:Qt}{F:Fr}{H:Hp}{L:Ls}(hmx:P.follows .mixedOrders=true)(Lk:Ls)(h:Vw P n N l Lk Q l.length (Array.replicate l.length false) F H L):Cw P n N (.region id l.toArray true) Q F H L:=
 λa w ha hm=>wp_region_any hmx (by simpa using vw_any _ _ _ _ _ h a _ ha (hm.drew (w.drawn+1)))
def Qi(P:Program)(n:Nat)(N:Rest)(ops:List Oper)(Lk:Ls)(o:Oper)(F:Fr)(H:Hp)(v:Value):Prop:=
 ∀ H' L',HLe H H'->LLe Lk L'->∀ a,At n a F->YieldsIn P ops.toArray (Mem N H' L') o v a
def putO(F:Fr)(d:Option Tmp)(v:Value):Fr:=match d with
 |some d=>upd F d v
 |none=>F
def dstB(n:Nat)(o:Oper):Bool:=match o.dst with
 |some d=>Nat.blt d n
 |none=>true
theorem At.putO{a:Act}{F:Fr}(h:At n a F){o:Oper}(hd:dstB n o=true)(v:Value):At n (a.put o.dst v) (putO F o.dst v):=by
 unfold dstB at hd
 cases e:o.dst with
 |none=>exact h
 |some d=>rw[e] at hd;exact h.put pI v
def apB(n:Nat)(ops:List Oper)(listed:Array Bool)(i:Nat)(oi:Oper):Bool:=
 (FD ops.length).all λj=>j==i||listed.getD j true ||
   match ops[j]? with
   |none=>true
   |some oj=>oj.after.any (λe=>e.on==i&&CV .any e)||(oi.apart ops.toArray oj&&dstB n oj&&(match oj.op with| .select .. =>false|_=>true))
theorem apB_spec{ops:List Oper}{listed:Array Bool}{i:Nat}{oi:Oper}(h:apB n ops listed i oi=true){j:Nat}{oj:Oper}(hj:ops[j]? = some oj)(hji:j≠i)(hl:listed.getD j true=false)
   (hw:∀ e∈oj.after,Region.binds .any e=true->e.on≠i):oi.apart ops.toArray oj=true/\dstB n oj=true/\∀ cs b,oj.op ≠ .select cs b:=by
 unfold apB at h;grind
theorem wpOp_shift{ops:Array Oper}{j:Nat}{oi oj:Oper}{v:Value}(hj:ops[j]? = some oj)(hap:oi.apart ops oj=true)(hsj:∀ cs b,oj.op ≠ .select cs b)
   {K K':Act->World->Prop} {a:Act} {w:World} (hK:∀ u w',K ((a.put oj.dst u).put oi.dst v) w'->K' (a.put oj.dst u) w')
   (hd:∀ d u w',¬K ({a.put oi.dst v with defers:=d}.put oj.dst u) w'\/d=(a.put oi.dst v).defers)
   (h:wpOp P ops NoQ j K (a.put oi.dst v) w):wpOp P ops NoQ j K' a w:=by
 have⟨h1,h2,h3⟩:=DY hap;unfold wpOp at *;simp only[hj] at *;rw[wanted_put oj a oi.dst v h1] at h
 split
 . rename_i hw
   simp only[hw,if_true] at h
   rcases h with h|⟨_,a1,w1,hlets⟩
   case inr=>exact hlets.elim
   refine .inl ?_
   unfold BG at *
   rw[execOp_put oj hsj a oi.dst v h1] at h
   generalize (execOp a.eval oj).run P w=r at *
   cases r with
   |ok m w'=>
     cases m<;>simp only[DM] at h ⊢
     case value u=>exact hK u w' (by rw[<- Act.put_comm a v u h2];exact h)
     case skip=>exact hK _ w' nS
     case defer d=>
       rcases hd (d::(a.put oi.dst v).defers) undef w' with q|q
       . exact absurd h q
       . exact absurd q (by intro e;have :=congrArg List.length e;simp at this)
     case enter f args=>
       refine GK h λe w'' he=>?_
       cases e with
       |returned u=>exact hK u w'' mF
       |panicked c=>exact he.elim
       |outgrown=>have⟨_,_,q⟩:=he;exact q.elim
     case row row args=>exact GW h λu w'' he=>hK u w'' mF
   |halt x w'=>
     cases x<;>simp only[DM] at h ⊢
     case panic u=>exact h
 . rename_i hw
   simp only[hw] at h
   exact hK _ w nS
theorem qi_keep{ops:List Oper}{Lk:Ls}{oi oj:Oper}{F F':Fr}{H H':Hp}{v u:Value}{a:Act}(hsi:∀ cs b,oi.op ≠ .select cs b)(hap:oi.apart ops.toArray oj=true)(hd:dstB n oj=true)(h:Qi P n N ops Lk oi F H v)(hl:HLe H H')(ha:At n a F)
   (ha':At n (a.put oj.dst u) F'):Qi P n N ops Lk oi F' H' v:=by
 have⟨h1,h2,h3⟩:=DY hap;intro H2 L2 hh hL a2 ha2;have hy:=h H2 L2 (hl.trans hh) hL a ha;have he:a2.eval=(a.put oj.dst u).eval:=by rw[ha2.eval,ha'.eval]
 have ht:∀ t,a2.tmps.getD t undef=(a.put oj.dst u).tmps.getD t undef:=λt=>(ha2.get t).trans (ha'.get t).symm;have hs:a2.tmps.size=(a.put oj.dst u).tmps.size:=ha2.size.trans ha'.size.symm;have hg:∀ t:Nat,a2.tmps[t]? = (a.put oj.dst u).tmps[t]? :=λt=>by
   have q:=ht t
   simp only[AD] at q
   grind
 have hyd:yielded ops.toArray a2.tmps=yielded ops.toArray (a.put oj.dst u).tmps:=by
   funext j
   unfold yielded
   grind
 refine hy.of_same ?_ ?_;rw[he];exact execOp_put oi hsi a oj.dst u h3;rw[hyd];exact wanted_put oi a oj.dst u h3
theorem Zw_{ops:List Oper}{C:World->Prop}{i:Nat}{oi:Oper}{v:Value}{a:Act}{w:World}{K:Act->World->Prop}(hi:ops[i]? = some oi)(hw:C w)(hy:YieldsIn P ops.toArray C oi v a)(h:∀ w',C w'->K (a.put oi.dst v) w'):wpOp P ops.toArray NoQ i K a w:=by
 have hi':ops.toArray[i]? = some oi:=by simpa using hi
 unfold wpOp;simp only[hi']
 rcases hy with ⟨h1,h2⟩|⟨h1,rfl⟩
 . simp only[h1,if_true]
   left
   have h3:=h2 w hw
   unfold Oper.quietAt at h3
   unfold BG
   generalize (execOp a.eval oi).run P w=r at *
   cases r with
   |ok m w'=>
     cases m<;>simp only[G0] at h3<;>simp only[DM]
     case value u=>have⟨e1,e2⟩:=h3;rw[e1,e2];exact h _ hw
     case skip=>have⟨e1,e2⟩:=h3;rw[e1,<- e2];exact h _ hw
     case enter f args=>
       have⟨e1,hc⟩:=h3
       rw[e1]
       exact hc.mono λe w'' ⟨he,hw''⟩=>by subst he;exact h _ hw''
   |halt x w'=>simp only[G0] at h3
 grind
theorem Sl_{ops:List Oper}{Lk:Ls}(Lq:Ls){Q:Qt}{i:Nat}{oi:Oper}{v:Value}(hi:ops[i]? = some oi)(hsi:∀ cs b,oi.op ≠ .select cs b)(hdi:dstB n oi=true)(hLq:(Qx_ oi.op=true/\Lq=Lk)\/Lq = λ_=>none) :
   ∀ (fuel:Nat) (listed:Array Bool) (F:Fr) (H:Hp) (L:Ls),apB n ops listed i oi=true->i∈Region.ready .any ops.toArray listed->LLe Lq L->Qi P n N ops Lq oi F H v ->
     Vw P n N ops Lk Q fuel (listed.setIfInBounds i true) (putO F oi.dst v) H L->Vw P n N ops Lk Q (fuel+1) listed F H L:=by
 intro fuel;have hi':ops.toArray[i]? = some oi:=by simpa using hi
 induction fuel with
 |zero=>
   intro listed F H L hap hr hL hq hv
   refine⟨λh=>(by rw[h] at hr;cases hr),λj hj a w ha hm=>?_⟩
   by_cases hji:j=i
   . exact rO
   . have⟨h0,oj,hoj,hwt⟩:=mem_ready.1 hj
     have :j∈CF .any ops.toArray (listed.setIfInBounds i true):=mem_ready.2 ⟨by rw[getD_set_ne _ (λe=>hji e.symm)];exact h0,oj,hoj,λe he hb=>getD_set_true (hwt e he hb)⟩
     rw[hv.1] at this;cases this
 |succ fuel ih=>
   intro listed F H L hap hr hL hq hv
   refine⟨λh=>(by rw[h] at hr;cases hr),λj hj a w ha hm=>?_⟩
   by_cases hji:j=i
   . exact rO
   . have⟨h0,oj,hoj,hwt⟩:=mem_ready.1 hj
     have hjr:j∈CF .any ops.toArray (listed.setIfInBounds i true):=mem_ready.2 ⟨by rw[getD_set_ne _ (λe=>hji e.symm)];exact h0,oj,hoj,λe he hb=>getD_set_true (hwt e he hb)⟩
     have hil:listed.getD i true=false:=(mem_ready.1 hr).1
     have hni:∀ e∈oj.after,CV .any e=true->e.on≠i:=λe he hb q=>by
       have h1:=hwt e he hb
       rw[q] at h1
       have hlt:i<listed.size:=by
         by_cases z:i<listed.size
         . exact z
         . simp[AD,C4 (DU z)] at hil
       simp[AD,Array.getElem?_eq_getElem hlt] at hil h1
       rw[h1] at hil;cases hil
     have hoj':ops[j]? = some oj:=by simpa using hoj
     have⟨ap,hdj,hsj⟩:=apB_spec hap hoj' hji h0 hni
     have⟨p1,p2,p3⟩:=DY ap
     have hstep:=hv.2 j hjr (a.put oi.dst v) w (ha.putO hdi v) hm
     refine wpOp_shift hoj ap hsj (λu w' hK=>?_) (λd u w'=>?_) hstep
     . have⟨F1,H1,L1,hA,hM,hS,hV⟩:=hK
       have hset:(listed.setIfInBounds i true).getD i false=true:=by
         have hlt:i<listed.size:=by
           by_cases z:i<listed.size
           . exact z
           . simp[AD,C4 (DU z)] at hil
         simp[AD,hlt]
       have hwt2:∀ l:Bool,(l=((ops[j]?).map λo=>o.after.any λe=>e.on==i&&CV .any e).getD false)->l=true->False:=by
         intro l hl h
         rw[hl,hoj'] at h
         simp only[C1,BJ,Array.any_eq_true,A3,beq_iff_eq] at h
         have⟨k,hk,e1,e2⟩:=h
         exact hni _ (Array.getElem_mem hk) e2 e1
       have hlt0:i<ops.length:=(List.getElem?_eq_some_iff.1 hi).1
       have hS0:HLe H H1/\(LLe Lk L1\/L1=L\/tailP ops (listed.setIfInBounds i true) j=true):=hS.resolve_right λht=>by
         unfold tailB at ht
         have :=List.all_eq_true.1 ht i (List.mem_range.2 hlt0)
         rw[hset] at this
         exact hwt2 _ Y (by simpa using this)
       have hS1:LLe Lq L1:=by
         rcases hLq with ⟨hm1,rfl⟩|rfl
         . rcases hS0.2 with h|rfl|h
           . exact h
           . exact hL
           . exfalso
             unfold tailP at h
             have :=List.all_eq_true.1 h i (List.mem_range.2 hlt0)
             rw[hset,hi] at this
             simp only[C1,BJ,hm1] at this
             exact hwt2 _ Y (by simpa using this)
         . exact K9_
       have hS2:LLe Lk L1\/L1=L\/tailP ops listed j=true:=by
         rcases hS0.2 with h|h|h
         . exact .inl h
         . exact .inr (.inl h)
         . refine .inr (.inr ?_)
           unfold tailP at *
           refine List.all_eq_true.2 λm hm'=>?_
           have h1:=List.all_eq_true.1 h m hm'
           by_cases e:m=i
           . grind
           . have :(listed.setIfInBounds i true).getD m false=listed.getD m false:=by
               simp[AD,DT,Ne.symm e]
             rw[this] at h1;exact h1
       have hS':HLe H H1/\LLe Lq L1:=⟨hS0.1,hS1⟩
       have hX:True:=by
         trivial
       have hY:True:=by
         trivial
       have hA':At n (a.put oj.dst u) (putO F oj.dst u):=ha.putO hdj u
       have hF:F1=putO (putO F oj.dst u) oi.dst v:=hA.uniq (hA'.putO hdi v)
       refine⟨putO F oj.dst u,H1,L1,hA',hM, .inl ⟨hS0.1,hS2⟩,?_⟩
       have hc:(listed.setIfInBounds i true).setIfInBounds j true=(listed.setIfInBounds j true).setIfInBounds i true:=Array.setIfInBounds_comm _ _ (λe=>hji e.symm)
       rw[hc,hF] at hV
       refine ih _ _ _ _ ?_ ?_ hS'.2 (qi_keep hsi ap hdj hq hS'.1 ha hA') hV
       . unfold apB at *
         refine List.all_eq_true.2 λm hm'=>?_
         have :=List.all_eq_true.1 hap m hm'
         by_cases e:j=m
         . subst e
           have hset:(listed.setIfInBounds j true).getD j true=true:=by
             by_cases z:j<listed.size
             . simp[AD,z]
             . simp[AD,C4 (DU z)]
           simp[hset]
         . rw[getD_set_ne _ e];exact this
       . have⟨q0,q1,q2,q3⟩:=mem_ready.1 hr
         exact mem_ready.2 ⟨by rw[getD_set_ne _ hji];exact q0,q1,q2,λe he hb=>getD_set_true (q3 e he hb)⟩
     . by_cases e:d=(a.put oi.dst v).defers
       . exact .inr e
       . left
         rintro⟨F1,H1,L1,hA,_⟩
         have h1:=hA.defers
         have h2:=(ha.putO hdi v).defers
         have h3:({a.put oi.dst v with defers:=d}.put oj.dst u).defers=d:=by cases oj.dst<;>rfl
         rw[h3] at h1
         exact e (h1.trans h2.symm)
def rdB(ops:List Oper)(listed:Array Bool)(i:Nat):Bool:=(CF .any ops.toArray listed).contains i
section
variable{ops:List Oper}{Lk:Ls}{Q:Qt}{fuel i d:Nat}{op:Op}{ty:TypeId}{pos:String}{af:Array Edge}{v:Value}{listed:Array Bool}{F:Fr}{H:Hp}{L:Ls}
theorem vw_done(h:Region.ready .any ops.toArray listed=[])(k:Q .normal F H L):Vw P n N ops Lk Q fuel listed F H L:=by
 cases fuel with
 |zero=>exact⟨h,k⟩
 |succ fuel=>exact⟨λ_=>k,λi hi=>by rw[h] at hi;cases hi⟩
def nosB(op:Op):Bool:=match op with| .select .. =>false|_=>true
theorem O2_{op:Op}(h:nosB op=true):∀ cs b,op ≠ .select cs b:=λcs b e=>by subst e;cases h
theorem vw_q(i:Nat)(hi:ops[i]? = some ⟨some d,op,ty,pos,af,none⟩)
   (h:∀ H' L',HLe H H'->LLe (lkOf op Lk) L'->Lo P N op ty F H' L' v) (k:Vw P n N ops Lk Q fuel (listed.setIfInBounds i true) (upd F d v) H L)(hck:(rdB ops listed i&&apB n ops listed i ⟨some d,op,ty,pos,af,none⟩&&Nat.blt d n&&nosB op)=true:=by exact qY)(hL:LLe (lkOf op Lk) L:=by exact pK):Vw P n N ops Lk Q (fuel+1) listed F H L:=by
 simp only[A3] at hck;have⟨⟨⟨h1,h2⟩,h3⟩,h4⟩:=hck;refine Sl_ (lkOf op Lk) hi (O2_ h4) h3 (Rt_ op Lk) fuel listed F H L h2 oD hL ?_ k;intro H' L' hh hl a ha;refine .inl ⟨by simp[C0],λw hw=>?_⟩;exact rR
theorem vw_qc{f:FuncId}{args:Array Value}(i:Nat)(hi:ops[i]? = some ⟨some d,op,ty,pos,af,none⟩)(hck:(rdB ops listed i&&apB n ops listed i ⟨some d,op,ty,pos,af,none⟩&&Nat.blt d n&&nosB op)=true)(hL:LLe (λ_=>none) L)
   (h:Pr P f args H v) (he:En P op F f args) (k:Vw P n N ops Lk Q fuel (listed.setIfInBounds i true) (upd F d v) H L):Vw P n N ops Lk Q (fuel+1) listed F H L:=by
 simp only[A3] at hck;have⟨⟨⟨h1,h2⟩,h3⟩,h4⟩:=hck;refine Sl_ (λ_=>none) hi (O2_ h4) h3 (.inr Y) fuel listed F H L h2 oD hL ?_ k;intro H' L' hh hl a ha;refine .inl ⟨by simp[C0],λw hw=>?_⟩;exact rS
theorem vw_qg{j:Nat}{want b:Bool}(i:Nat)(hi:ops[i]? = some ⟨some d,op,ty,pos,af,some (j,want)⟩)(hck:(rdB ops listed i&&apB n ops listed i ⟨some d,op,ty,pos,af,some (j,want)⟩&&Nat.blt d n&&nosB op)=true)(hL:LLe (lkOf op Lk) L)
   (hy:yF ops F j=some (.bool b)) (hb:b=want) (h:∀ H' L',HLe H H'->LLe (lkOf op Lk) L'->Lo P N op ty F H' L' v) (k:Vw P n N ops Lk Q fuel (listed.setIfInBounds i true) (upd F d v) H L):Vw P n N ops Lk Q (fuel+1) listed F H L:=by
 simp only[A3] at hck;have⟨⟨⟨h1,h2⟩,h3⟩,h4⟩:=hck;refine Sl_ (lkOf op Lk) hi (O2_ h4) h3 (Rt_ op Lk) fuel listed F H L h2 oD hL ?_ k;intro H' L' hh hl a ha;refine .inl ⟨by simp[C0,Lu_ ha hy,hb],λw hw=>?_⟩;exact rR
theorem vw_qgc{j:Nat}{want b:Bool}{f:FuncId}{args:Array Value}(i:Nat)(hi:ops[i]? = some ⟨some d,op,ty,pos,af,some (j,want)⟩)(hck:(rdB ops listed i&&apB n ops listed i ⟨some d,op,ty,pos,af,some (j,want)⟩&&Nat.blt d n&&nosB op)=true)(hL:LLe (λ_=>none) L)
   (hy:yF ops F j=some (.bool b)) (hb:b=want) (h:Pr P f args H v) (he:En P op F f args) (k:Vw P n N ops Lk Q fuel (listed.setIfInBounds i true) (upd F d v) H L):Vw P n N ops Lk Q (fuel+1) listed F H L:=by
 simp only[A3] at hck;have⟨⟨⟨h1,h2⟩,h3⟩,h4⟩:=hck;refine Sl_ (λ_=>none) hi (O2_ h4) h3 (.inr Y) fuel listed F H L h2 oD hL ?_ k;intro H' L' hh hl a ha;refine .inl ⟨by simp[C0,Lu_ ha hy,hb],λw hw=>?_⟩;exact rS
theorem vw_qgs{j:Nat}{want b:Bool}(i:Nat)(hi:ops[i]? = some ⟨some d,op,ty,pos,af,some (j,want)⟩)(hck:(rdB ops listed i&&apB n ops listed i ⟨some d,op,ty,pos,af,some (j,want)⟩&&Nat.blt d n&&nosB op)=true)(hL:LLe (λ_=>none) L)
   (hy:yF ops F j=some (.bool b)) (hb:b=!want) (k:Vw P n N ops Lk Q fuel (listed.setIfInBounds i true) (upd F d undef) H L):Vw P n N ops Lk Q (fuel+1) listed F H L:=by
 simp only[A3] at hck;have⟨⟨⟨h1,h2⟩,h3⟩,h4⟩:=hck;refine Sl_ (λ_=>none) hi (O2_ h4) h3 (.inr Y) fuel listed F H L h2 oD hL ?_ k;intro H' L' hh hl a ha;exact .inr ⟨by simp[C0,Lu_ ha hy,hb],rfl⟩
theorem vw_qgx{j:Nat}{want:Bool}(i:Nat)(hi:ops[i]? = some ⟨some d,op,ty,pos,af,some (j,want)⟩)(hck:(rdB ops listed i&&apB n ops listed i ⟨some d,op,ty,pos,af,some (j,want)⟩&&Nat.blt d n&&nosB op)=true)(hL:LLe (λ_=>none) L)
   (hy:yF ops F j=some undef) (k:Vw P n N ops Lk Q fuel (listed.setIfInBounds i true) (upd F d undef) H L):Vw P n N ops Lk Q (fuel+1) listed F H L:=by
 simp only[A3] at hck;have⟨⟨⟨h1,h2⟩,h3⟩,h4⟩:=hck;refine Sl_ (λ_=>none) hi (O2_ h4) h3 (.inr Y) fuel listed F H L h2 oD hL ?_ k;intro H' L' hh hl a ha;exact .inr ⟨by simp[C0,yielded_undef ha hy],rfl⟩
theorem Wy_{o:Oper}{K:Fr->Hp->Ls->Prop}(ho:ops[i]? = some o)(h:Op1 P n N ops o K F H L)(a:Act)(w:World)(ha:At n a F)(hm:Mem N H L w):wpOp P ops.toArray NoQ i (λa' w'=>∃ F' H' L',At n a' F'/\Mem N H' L' w'/\K F' H' L') a w:=by
 have :=h a w ha hm;have ho':ops.toArray[i]? = some o:=by simpa using ho
 unfold wpOp;simp only[ho']
 split
 . rename_i hw;rw[if_pos hw] at this;exact .inl this
 grind
theorem vw_e{o:Oper}(i:Nat)(ho:ops[i]? = some o)(hr:Region.ready .any ops.toArray listed=[i])(h:Op1 P n N ops o (λF' H' L'=>(HLe H H'/\LLe Lk L')/\Vw P n N ops Lk Q fuel (listed.setIfInBounds i true) F' H' L') F H L):Vw P n N ops Lk Q (fuel+1) listed F H L:=by
 refine⟨λq=>oM,λj hj a w ha hm=>?_⟩;rw[hr] at hj;obtain rfl :j=i:=by simpa using hj
 exact wpOp_mono (λa' w' ⟨F',H',L',x,y,z1,z2⟩=>⟨F',H',L',x,y, .inl ⟨z1.1, .inl z1.2⟩,z2⟩) (Wy_ ho h a w ha hm)
theorem vw_t{o:Oper}(i:Nat)(ho:ops[i]? = some o)(hr:Region.ready .any ops.toArray listed=[i])(ht:tailB ops listed i=true)(h:Op1 P n N ops o (λF' H' L'=>Vw P n N ops Lk Q fuel (listed.setIfInBounds i true) F' H' L') F H L):Vw P n N ops Lk Q (fuel+1) listed F H L:=by
 refine⟨λq=>oM,λj hj a w ha hm=>?_⟩;rw[hr] at hj;obtain rfl :j=i:=by simpa using hj
 exact wpOp_mono (λa' w' ⟨F',H',L',x,y,z2⟩=>⟨F',H',L',x,y, .inr ht,z2⟩) (Wy_ ho h a w ha hm)
theorem vw_tp{o:Oper}(i:Nat)(ho:ops[i]? = some o)(hr:Region.ready .any ops.toArray listed=[i])(ht:tailP ops listed i=true)(h:Op1 P n N ops o (λF' H' L'=>HLe H H'/\Vw P n N ops Lk Q fuel (listed.setIfInBounds i true) F' H' L') F H L):Vw P n N ops Lk Q (fuel+1) listed F H L:=by
 refine⟨λq=>oM,λj hj a w ha hm=>?_⟩;rw[hr] at hj;obtain rfl :j=i:=by simpa using hj
 exact wpOp_mono (λa' w' ⟨F',H',L',x,y,z1,z2⟩=>⟨F',H',L',x,y, .inl ⟨z1, .inr (.inr ht)⟩,z2⟩) (Wy_ ho h a w ha hm)
end
variable{F:Fr}{H:Hp}{L:Ls}{ty T T':TypeId}{x y z:Operand}
abbrev Bs:=List UInt8
def str(l:Bs):Value:= .string ⟨l.toArray⟩
theorem Qn_(l:Bs):(⟨l.toArray⟩:ByteArray).toList=l:=by rw[Lib.toList_data]
theorem Mc_(l:Bs):(⟨l.toArray⟩:ByteArray).size=l.length:=by simp[ByteArray.size]
theorem ba_append(a b:Bs):(⟨a.toArray⟩:ByteArray)++⟨b.toArray⟩=⟨(a++b).toArray⟩:=by
 apply ByteArray.ext
 simp
theorem U9_(l:Bs)(i j:Nat):(⟨l.toArray⟩:ByteArray).extract i j=⟨((l.drop i).take (j-i)).toArray⟩:=by
 rw[Lib.extract_eq]
theorem ba_get(l:Bs)(i:Nat):(⟨l.toArray⟩:ByteArray)[i]? = l[i]? :=by
 by_cases h:i<l.length;have h':i<(⟨l.toArray⟩:ByteArray).size:=by rw[Mc_];exact h
 rw[getElem?_pos _ i h',getElem?_pos _ i h];rfl;have h':¬i<(⟨l.toArray⟩:ByteArray).size:=by rw[Mc_];exact h
 grind
theorem str_of(s:ByteArray):Value.string s=str s.data.toList:=by
 unfold str;rw[Lib.mk_data]
variable{a b:Bs}
theorem lo_cat(hx:ev F x=str a)(hy:ev F y=str b)(hb:a.length+b.length<=9223372036854775807):Lo P N (.binOp .add T x y T') ty F H L (str (a++b)):=
 G0_ hx hy (λw=>Pf_ w) λw=>by
   have h:¬(((a.length+b.length:Nat):Int)>IntKind.i64.max):=by simp[DH,AO,D1];omega
   unfold str
   simp only[binOp,E0,Mc_,h,if_false,ba_append]
   rfl
theorem Ye_(a b:Bs):(a==b) = decide (a=b):=by rw[Bool.eq_iff_iff];simp
theorem lo_seql(hx:ev F x=str a)(hy:ev F y=str b):Lo P N (.binOp .eql T x y T') ty F H L (.bool (decide (a=b))):=
 G0_ hx hy (λw=>Pf_ w) λw=>by unfold str;simp only[binOp,E0,Qn_,Ye_];rfl
theorem lo_sneq(hx:ev F x=str a)(hy:ev F y=str b):Lo P N (.binOp .neq T x y T') ty F H L (.bool (!decide (a=b))):=
 G0_ hx hy (λw=>Pf_ w) λw=>by unfold str;simp only[binOp,E0,Qn_,Ye_];rfl
theorem lo_slss(hx:ev F x=str a)(hy:ev F y=str b):Lo P N (.binOp .lss T x y T') ty F H L (.bool (Op.bytesLess a b)):=
 G0_ hx hy (λw=>Pf_ w) λw=>by unfold str;simp only[binOp,E0,Qn_];rfl
theorem F4_{bi:Builtin}{cargs:Array Operand}{args:Array Value}{ats:Array TypeId}{d:Option Tmp}{pos:String}{af:Array Edge}{g:Option (Nat×Bool)}{w w':World}{r:Next}
   (ha:cargs.map (ev F)=args) (h:∀ cs,(builtin bi ats ty cs args).run P w = .ok r w') :
   (execOp (ev F) ⟨d, .call ⟨.builtin bi,cargs,ats⟩,ty,pos,af,g⟩).run P w = .ok r w':=by
 subst ha;simp only[execOp,resolve,bind,Sem.bind,pure,invoke];exact h _
theorem lo_len_str(hx:ev F x=str a)(hT:P.underlying T=some .string):Lo P N (.call ⟨.builtin .len,#[x],#[T]⟩) ty F H L (.int .i64 a.length):=λd pos af g w _=>by
 refine F4_ (args:=#[str a]) pR λcs=>?_
 simp[builtin,FV,str,run_underlying hT,Mc_,goInt]
theorem Uk_{sa:Option Addr}{l c:Nat}{e:TypeId}(hx:ev F x = .slice sa l c)(hT:P.underlying T=some (.slice e)):Lo P N (.call ⟨.builtin .len,#[x],#[T]⟩) ty F H L (.int .i64 l):=λd pos af g w _=>by
 refine F4_ (args:=#[.slice sa l c]) pR λcs=>?_
 simp[builtin,FV,run_underlying hT,goInt]
theorem lo_min{k:IntKind}{p q:Int}{ats:Array TypeId}(hx:ev F x = .int k p)(hy:ev F y = .int k q):Lo P N (.call ⟨.builtin .min,#[x,y],ats⟩) ty F H L (.int k (min p q)):=λd pos af g w _=>by
 refine F4_ (args:=#[.int k p, .int k q]) oR λcs=>?_
 have :(if q<p then q else p)=min p q:=by omega
 simp[builtin,Builtin.min_,Builtin.min2,this]
theorem lo_max{k:IntKind}{p q:Int}{ats:Array TypeId}(hx:ev F x = .int k p)(hy:ev F y = .int k q):Lo P N (.call ⟨.builtin .max,#[x,y],ats⟩) ty F H L (.int k (max p q)):=λd pos af g w _=>by
 refine F4_ (args:=#[.int k p, .int k q]) oR λcs=>?_
 have :(if q>p then q else p)=max p q:=by omega
 simp[builtin,FW,E9,this]
theorem lo_index_str{k:IntKind}{i:Int}(m:Nat)(hx:ev F x=str a)(hy:ev F y = .int k i)(hT:P.underlying T=some .string)(hi:i=(m:Int))(h1:m<a.length):Lo P N (.index T x y) ty F H L (.int .u8 (a.getD m 0).toNat):=λd pos af g w _=>by
 subst hi
 simp[execOp,Instr.index,hx,hy,str,asIntOf,run_underlying hT,ba_get,AA h1]
theorem lo_slice_str{k k':IntKind}{i j:Int}{lo hi:Operand}(m q:Nat)(hx:ev F x=str a)(hlo:ev F lo = .int k i)(hhi:ev F hi = .int k' j)(hT:P.underlying T=some .string)(h0:i=(m:Int))(hq:j=(q:Int))(h1:m<=q)(h2:q<=a.length) :
   Lo P N (.slice T x (some lo) (some hi) none) ty F H L (str ((a.drop m).take (q-m))):=λd pos af g w _=>by
 subst h0;subst hq
 simp[execOp,C7,CM,BT,BX,hx,hlo,hhi,str,run_underlying hT,asIntOf,Mc_,h1,h2,U9_]
theorem Yh_{k:IntKind}{i:Int}{lo:Operand}(m:Nat)(hx:ev F x=str a)(hlo:ev F lo = .int k i)(hT:P.underlying T=some .string)(h0:i=(m:Int))(h2:m<=a.length) :
   Lo P N (.slice T x (some lo) none none) ty F H L (str (a.drop m)):=λd pos af g w _=>by
 subst h0
 have e3:(a.drop m).take (a.length-m)=a.drop m:=by rw[AZ];simp
 simp[execOp,C7,CM,BT,BX,hx,hlo,str,run_underlying hT,asIntOf,Mc_,h2,U9_,e3]
theorem Yg_{k':IntKind}{j:Int}{hi:Operand}(q:Nat)(hx:ev F x=str a)(hhi:ev F hi = .int k' j)(hT:P.underlying T=some .string)(h0:j=(q:Int))(h2:q<=a.length) :
   Lo P N (.slice T x none (some hi) none) ty F H L (str (a.take q)):=λd pos af g w _=>by
 subst h0
 simp[execOp,C7,CM,BT,BX,hx,hhi,str,run_underlying hT,asIntOf,Mc_,h2,U9_]
theorem lo_not{p:Bool}(hx:ev F x = .bool p):Lo P N (.unOp .not T x) ty F H L (.bool (!p)):=λd pos af g w _=>by simp[execOp,hx,Op.unary]
theorem V2_(d:Nat){p q:Bool}(hT:P.underlying T=some .bool)(w:World):(Op.equalIn (d+1) T (.bool p) (.bool q)).run P w = .ok (p==q) w:=by
 simp[D4,run_underlying hT]
theorem V3_(d:Nat){p:Addr}{e:TypeId}(hT:P.underlying T=some (.pointer e))(w:World):(Op.equalIn (d+1) T (.pointer (some p)) (.pointer none)).run P w = .ok false w:=by
 simp[D4,run_underlying hT]
theorem Pg_{v u:Value}{r:Bool}{w:World}(h:∀ d,(Op.equalIn (d+1) T v u).run P w = .ok r w):(Op.equal T v u).run P w = .ok r w:=h 9999
theorem lo_beql{p q:Bool}(hx:ev F x = .bool p)(hy:ev F y = .bool q)(hT:P.underlying T=some .bool):Lo P N (.binOp .eql T x y T') ty F H L (.bool (p==q)):=
 G0_ hx hy (λw=>V1_ w) λw=>by simp[binOp,Pg_ (λd=>V2_ d hT w)]
theorem lo_bneq{p q:Bool}(hx:ev F x = .bool p)(hy:ev F y = .bool q)(hT:P.underlying T=some .bool):Lo P N (.binOp .neq T x y T') ty F H L (.bool (!(p==q))):=
 G0_ hx hy (λw=>V1_ w) λw=>by simp[binOp,Pg_ (λd=>V2_ d hT w)]
theorem lo_conv{k k':IntKind}{i:Int}(hx:ev F x = .int k' i)(hs:(P.underlying T).isSome=true)(hd:P.underlying T'=some (.int k)):Lo P N (.convert T T' x) ty F H L (.int k (k.wrap i)):=λd pos af g w _=>by
 have⟨ds,hs'⟩:=Option.isSome_iff_exists.1 hs
 simp[execOp,hx,convert,run_underlying hs',run_underlying hd,Conv.intToInt]
theorem lo_conv_in{k k':IntKind}{i:Int}(hx:ev F x = .int k' i)(hs:(P.underlying T).isSome=true)(hd:P.underlying T'=some (.int k))(hi:k.min<=i/\i<=k.max):Lo P N (.convert T T' x) ty F H L (.int k i):=by
 have :=lo_conv (P:=P) (N:=N) (F:=F) (H:=H) (L:=L) (ty:=ty) hx hs hd
 rwa [Rj_ hi] at this
theorem lo_conv_str(hx:ev F x=str a)(hs:P.underlying T=some .string)(hd:P.underlying T'=some .string):Lo P N (.convert T T' x) ty F H L (str a):=λd pos af g w _=>by
 simp[execOp,hx,str,convert,run_underlying hs,run_underlying hd]
theorem lo_sub{k:IntKind}{p q:Int}(hx:ev F x = .int k p)(hy:ev F y = .int k q)(h:k.min<=p-q/\p-q<=k.max):Lo P N (.binOp .sub T x y T') ty F H L (.int k (p-q)):=by
 have :=lo_sub_w (P:=P) (N:=N) (H:=H) (L:=L) (ty:=ty) (T:=T) (T':=T') hx hy
 rwa [Rj_ h] at this
theorem lo_mul{k:IntKind}{p q:Int}(hx:ev F x = .int k p)(hy:ev F y = .int k q)(h:k.min<=p*q/\p*q<=k.max):Lo P N (.binOp .mul T x y T') ty F H L (.int k (p*q)):=by
 have :=lo_mul_w (P:=P) (N:=N) (H:=H) (L:=L) (ty:=ty) (T:=T) (T':=T') hx hy
 rwa [Rj_ h] at this
theorem lo_quo{k:IntKind}{p q:Int}(hx:ev F x = .int k p)(hy:ev F y = .int k q)(h0:0<=p)(h1:p<=k.max)(hq:0<q):Lo P N (.binOp .quo T x y T') ty F H L (.int k (p/q)):=
 G0_ hx hy (λw=>En_ w) λw=>by
   have e:q≠0:=by omega
   have e1:p.tdiv q=p/q:=Int.tdiv_eq_ediv_of_nonneg h0
   have e2:0<=p/q:=E2 h0 qX
   have e3:p/q<=p:=DV q h0
   have e4:k.min<=0:=by cases k<;>decide
   simp[binOp,Op.intDiv,e,e1,Rj_ (k:=k) (z:=p/q) ⟨by omega,by omega⟩]
theorem lo_rem{k:IntKind}{p q:Int}(hx:ev F x = .int k p)(hy:ev F y = .int k q)(h0:0<=p)(hq:0<q):Lo P N (.binOp .rem T x y T') ty F H L (.int k (p%q)):=
 G0_ hx hy (λw=>En_ w) λw=>by
   have e:q≠0:=by omega
   have e1:p.tmod q=p%q:=Int.tmod_eq_emod_of_nonneg h0
   simp[binOp,Op.intDiv,e,e1]
theorem lo_shl{k k':IntKind}{p q:Int}(hx:ev F x = .int k p)(hy:ev F y = .int k' q)(h0:0<=q):Lo P N (.binOp .shl T x y T') ty F H L (.int k (k.wrap (p*2 ^ (min q.toNat k.bits)))):=
 G0_ hx hy (λw=>En_ w) λw=>by
   have e:¬q<0:=by omega
   simp[binOp,Op.shift,e]
theorem lo_shr{k k':IntKind}{p q:Int}(hx:ev F x = .int k p)(hy:ev F y = .int k' q)(h0:0<=q):Lo P N (.binOp .shr T x y T') ty F H L (.int k (p.fdiv (2 ^ (min q.toNat k.bits)))):=
 G0_ hx hy (λw=>En_ w) λw=>by
   have e:¬q<0:=by omega
   simp[binOp,Op.shift,e]
theorem lo_or{k:IntKind}{p q:Int}(hx:ev F x = .int k p)(hy:ev F y = .int k q):Lo P N (.binOp .or T x y T') ty F H L (.int k (k.wrap ((BitVec.ofInt k.bits p |||BitVec.ofInt k.bits q).toNat))):=
 G0_ hx hy (λw=>En_ w) λw=>by simp[binOp,DI]
theorem lo_and{k:IntKind}{p q:Int}(hx:ev F x = .int k p)(hy:ev F y = .int k q):Lo P N (.binOp .and T x y T') ty F H L (.int k (k.wrap ((BitVec.ofInt k.bits p &&& BitVec.ofInt k.bits q).toNat))):=
 G0_ hx hy (λw=>En_ w) λw=>by simp[binOp,DI]
theorem lo_xor{k:IntKind}{p q:Int}(hx:ev F x = .int k p)(hy:ev F y = .int k q):Lo P N (.binOp .xor T x y T') ty F H L (.int k (k.wrap ((BitVec.ofInt k.bits p ^^^ BitVec.ofInt k.bits q).toNat))):=
 G0_ hx hy (λw=>En_ w) λw=>by simp[binOp,DI]
theorem lo_com{k:IntKind}{p:Int}(hx:ev F x = .int k p)(hk:k.signed=false):Lo P N (.unOp .xor T x) ty F H L (.int k (k.wrap ((BitVec.ofInt k.bits k.max ^^^ BitVec.ofInt k.bits p).toNat))):=λd pos af g w _=>by
 simp[execOp,hx,Op.unary,DI,hk]
theorem lo_extract{vs:Array Value}{i:Nat}{v:Value}(hx:ev F x = .tuple vs)(hv:vs[i]? = some v):Lo P N (.extract x i) ty F H L v:=λd pos af g w _=>by
 simp[execOp,Instr.extract,hx,hv]
theorem Ho_{p:Addr}(hx:ev F x = .pointer (some p)):Lo P N (.nilCheck x) ty F H L (.pointer (some p)):=λd pos af g w _=>by
 simp[execOp,hx]
theorem lo_nilCheckF{f:FuncId}{cap:Array Value}(hx:ev F x = .func (.func f) #[] cap):Lo P N (.nilCheck x) ty F H L (.func (.func f) #[] cap):=λd pos af g w _=>by
 simp[execOp,hx]
theorem lo_peq_nil{p:Addr}{e:TypeId}(hx:ev F x = .pointer (some p))(hy:ev F y = .pointer none)(hT:P.underlying T=some (.pointer e)):Lo P N (.binOp .eql T x y T') ty F H L (.bool false):=
 G0_ hx hy (λw=>Pe_ w) λw=>by simp[binOp,Pg_ (λd=>V3_ d hT w)]
theorem lo_pne_nil{p:Addr}{e:TypeId}(hx:ev F x = .pointer (some p))(hy:ev F y = .pointer none)(hT:P.underlying T=some (.pointer e)):Lo P N (.binOp .neq T x y T') ty F H L (.bool true):=
 G0_ hx hy (λw=>Pe_ w) λw=>by simp[binOp,Pg_ (λd=>V3_ d hT w)]
def Fld(P:Program)(T:TypeId)(i o:Nat):Prop:=∀ (b off:Nat) (w:World),(G1 T (.pointer (some ⟨b,off,none⟩)) i).run P w = .ok (.pointer (some ⟨b,off+o,none⟩)) w
theorem Fo_{b off i o:Nat}(hx:ev F x = .pointer (some ⟨b,off,none⟩))(hf:Fld P T i o):Lo P N (.fieldAddr T x i) ty F H L (.pointer (some ⟨b,off+o,none⟩)):=λd pos af g w _=>by
 simp[execOp,hx,hf b off w]
def Ag(P:Program)(t:TypeId)(g:Bool):Prop:=∀ w,(isAgg t).run P w = .ok g w
def Sz(P:Program)(t:TypeId)(k:Nat):Prop:=∀ w,(sizeOf t).run P w = .ok k w
def bx(T:TypeId)(cs:List Value):Obj:= .cells cs.toArray T (0,0)
def sub(cs:List Value)(off k:Nat):List Value:=(cs.drop off).take k
theorem Mem.cellL{w:World}(h:Mem N H L w){i b off:Nat}{T:TypeId}{cs:List Value}{v:Value}(hi:L i=some (b,bx T cs))(hv:cs[off]? = some v):w.cell? ⟨b,off,none⟩=some v:=by
 simp[CB,h.l i b _ hi,bx,hv]
theorem G8_(b off j:Nat):(⟨b,off,none⟩:Addr).add j=⟨b,off+j,none⟩:=by
 unfold Addr.add;split;grind;rfl
theorem Mo_{b off i:Nat}{T0:TypeId}{cs:List Value}{v:Value}(hx:ev F x = .pointer (some ⟨b,off,none⟩))(hg:Ag P T false)(hi:L i=some (b,bx T0 cs))(hv:cs[off]? = some v):Lo P N (.load T x) ty F H L v:=λd pos af g w hm=>by
 have hc:=hm.cellL hi hv
 exact sX
theorem Ww_{b off i k:Nat}{T0:TypeId}{cs vs:List Value}(hx:ev F x = .pointer (some ⟨b,off,none⟩))(hg:Ag P T true)(hk:Sz P T k)(hi:L i=some (b,bx T0 cs))(hv:sub cs off k=vs)(hl:vs.length=k):Lo P N (.load T x) ty F H L (.agg vs.toArray):=λd pos af g w hm=>by
 have hc:=run_loadCells_list (P:=P) w ⟨b,off,none⟩ vs (λj v hj=>by
   rw[G8_]
   refine hm.cellL hi ?_
   subst hv
   simp only[sub,BE,DD] at hj
   split at hj
   . exact hj
   . cases hj)
 exact tU
theorem rv_c{a b off i k:Nat}{T0:TypeId}{cs vs:List Value}(hx:F a = .pointer (some ⟨b,off,none⟩))(hg:Ag P T true)(hk:Sz P T k)(hi:L i=some (b,bx T0 cs))(hv:sub cs off k=vs)(hl:vs.length=k):RV P N F H L (.cell a T) (.agg vs.toArray):=λw tmps ht hm=>by
 have hc:=run_loadCells_list (P:=P) w ⟨b,off,none⟩ vs (λj v hj=>by
   rw[G8_]
   refine hm.cellL hi ?_
   subst hv
   simp only[sub,BE,DD] at hj
   split at hj
   . exact hj
   . cases hj)
 rw[hl] at hc
 have hp:tmps.getD a undef = .pointer (some ⟨b,off,none⟩):=(ht a).trans hx
 simp only[rvS,hp]
 simp[asAddr,loadVar,hg w,hk w,hc]
section sl
variable{α:Type}
def SlAt(H:Hp)(sv:Value)(k m:Nat)(cs:List Value):Prop:=
 ∃ b off l cap c T fr,sv = .slice (some ⟨b,off,none⟩) l cap/\H b=some (.cells c T fr)/\cs.length=k/\∀ j,j<k->c[off+m*k+j]? = cs[j]?
def SlH(E:Hp->α->List Value->Prop)(k:Nat)(H:Hp)(sv:Value)(xs:List α):Prop:=
 (∃ a c,sv = .slice a xs.length c/\xs.length<=c)/\∀ m (h:m<xs.length),∃ cs,E H xs[m] cs/\SlAt H sv k m cs
def sBlk:Value->Nat
 | .slice (some a) _ _=>a.block
 |_=>0
def sOff:Value->Nat
 | .slice (some a) _ _=>a.off
 |_=>0
def sPtr(sv:Value)(k m:Nat):Value:= .pointer (some ⟨sBlk sv,sOff sv+m*k,none⟩)
theorem SlH.get{E:Hp->α->List Value->Prop}{k m:Nat}{sv:Value}{xs:List α}{c:α}(h:SlH E k H sv xs)(hc:xs[m]? = some c):∃ cs,E H c cs/\SlAt H sv k m cs:=by
 obtain⟨hm,rfl⟩:=List.getElem?_eq_some_iff.1 hc;exact h.2 m hm
theorem getE{xs:List α}{m:Nat}(h:m<xs.length):∃ c,xs[m]? = some c:=⟨_,AA h⟩
theorem D9_{xs:List α}{m:Nat}{c:α}(h:xs[m]? = some c):xs.drop m=c::xs.drop (m+1):=by
 obtain⟨hm,rfl⟩:=List.getElem?_eq_some_iff.1 h
 simp_all
theorem takeE{xs:List α}{m:Nat}{c:α}(h:xs[m]? = some c):xs.take (m+1)=xs.take m++[c]:=by
 rw[CO,h];rfl
theorem SlAt.mono{H':Hp}{sv:Value}{k m:Nat}{cs:List Value}(h:SlAt H sv k m cs)(hl:HLe H H'):SlAt H' sv k m cs:=by
 have⟨b,off,l,cap,c,T,fr,h1,h2,h3⟩:=h;exact⟨b,off,l,cap,c,T,fr,h1,hl _ _ h2,h3⟩
theorem SlH.mono{H':Hp}{E:Hp->α->List Value->Prop}{k:Nat}{sv:Value}{xs:List α}(h:SlH E k H sv xs)(hl:HLe H H')(hE:∀ x cs,E H x cs->E H' x cs):SlH E k H' sv xs:=
 ⟨h.1,λm hm=>let ⟨cs,h1,h2⟩:=h.2 m hm;⟨cs,hE _ _ h1,h2.mono hl⟩⟩
theorem lo_len_slh{E:Hp->α->List Value->Prop}{k:Nat}{sv:Value}{xs:List α}{e:TypeId}(hx:ev F x=sv)(hs:SlH E k H sv xs)(hT:P.underlying T=some (.slice e)):Lo P N (.call ⟨.builtin .len,#[x],#[T]⟩) ty F H L (.int .i64 xs.length):=by
 have⟨a,c,h,_⟩:=hs.1;exact Uk_ (hx.trans h) hT
theorem lo_indexAddr{kk:IntKind}{k m:Nat}{i:Int}{sv:Value}{cs:List Value}{e:TypeId}{len:Nat}(hx:ev F x=sv)(hy:ev F y = .int kk i)(hl:∃ a c,sv = .slice a len c/\len<=c)(hs:SlAt H sv k m cs)(hT:P.underlying T=some (.slice e))(hk:Sz P e k)(hi:i=m)(hm:m<len):Lo P N (.indexAddr T x y) ty F H L (sPtr sv k m):=λd pos af g w _=>by
 have⟨b,off,l,cap,c,T0,fr,h1,_⟩:=hs
 have⟨a',c',h2,_⟩:=hl
 subst hi
 have hle:l=len:=by rw[h1] at h2;injection h2
 subst hle
 have h0:(0:Int)<=(m:Int):=by omega
 have hlt:((m:Nat):Int)<(l:Int):=by omega
 have hx':ev F x = .slice (some ⟨b,off,none⟩) l cap:=by rw[hx,h1]
 simp[execOp,hx',hy,Instr.indexAt,asIntOf,run_underlying hT,hk w,hm,G8_,sPtr,h1,sBlk,sOff]
theorem Mem.cellAt{w:World}(hm:Mem N H L w){sv:Value}{k m:Nat}{cs:List Value}(hs:SlAt H sv k m cs){j:Nat}{v:Value}(hj:cs[j]? = some v):w.cell? ⟨sBlk sv,sOff sv+m*k+j,none⟩=some v:=by
 have⟨b,off,l,cap,c,T0,fr,h1,h2,h3,h4⟩:=hs;subst h1;have :j<k:=by
   grind
 simp[CB,sBlk,sOff,hm.h b _ h2,h4 j this,hj]
theorem lo_loadEf{k m o off:Nat}{sv v:Value}{cs:List Value}(hx:ev F x = .pointer (some ⟨sBlk sv,sOff sv+m*k+o,none⟩))(hg:Ag P T false)(hs:SlAt H sv k m cs)(ho:off=o)(hv:cs[o]? = some v):Lo P N (.load T x) ty F H L v:=λd pos af g w hm=>by
 have hc:=hm.cellAt hs hv
 exact sX
end sl
variable{ops:List Oper}{d:Nat}{pos:String}{af:Array Edge}{K:Fr->Hp->Ls->Prop}{pd:Option Nat}
theorem op1_box{cs:List Value}(i:Nat)(hd:Nat.blt d n=true)(hx:ev F x = .agg cs.toArray)(k:∀ b,K (upd F d (.pointer (some ⟨b,0,none⟩))) H (lupd L i (some (b,bx T cs)))):Op1 P n N ops ⟨some d, .box T x,ty,pos,af,none⟩ K F H L:=by
 intro a w ha hm;rw[if_pos pH];unfold BG;have :(execOp a.eval ⟨some d, .box T x,ty,pos,af,none⟩).run P w = .ok (.value (.pointer (some ⟨w.heap.size,0,none⟩))) {w with heap:=w.heap.push (bx T cs)}:=by
   rw[ha.eval]
   simp[execOp,GS,hx,newVar,newRow,ES,bx]
 exact tZ
theorem op1_box1{v:Value}(i:Nat)(hd:Nat.blt d n=true)(hx:ev F x=v)(hv:v.cells = #[v])(k:∀ b,K (upd F d (.pointer (some ⟨b,0,none⟩))) H (lupd L i (some (b,bx T [v])))):Op1 P n N ops ⟨some d, .box T x,ty,pos,af,none⟩ K F H L:=by
 intro a w ha hm;rw[if_pos pH];unfold BG;have :(execOp a.eval ⟨some d, .box T x,ty,pos,af,none⟩).run P w = .ok (.value (.pointer (some ⟨w.heap.size,0,none⟩))) {w with heap:=w.heap.push (bx T [v])}:=by
   rw[ha.eval]
   simp[execOp,GS,hx,newVar,newRow,hv,bx]
 exact tZ
def Zr(P:Program)(t:TypeId)(cs:List Value):Prop:=∀ w,∃ v,(zeroValue t).run P w = .ok v w/\v.cells=cs.toArray
theorem Yv_{cs:List Value}(i:Nat)(hd:Nat.blt d n=true)(hz:Zr P T cs)(k:∀ b,K (upd F d (.pointer (some ⟨b,0,none⟩))) H (lupd L i (some (b,bx T cs)))):Op1 P n N ops ⟨some d, .alloc T,ty,pos,af,none⟩ K F H L:=by
 intro a w ha hm;rw[if_pos pH];unfold BG;have⟨v,hv,hcs⟩:=hz w;have :(execOp a.eval ⟨some d, .alloc T,ty,pos,af,none⟩).run P w = .ok (.value (.pointer (some ⟨w.heap.size,0,none⟩))) {w with heap:=w.heap.push (bx T cs)}:=by
   simp[execOp,Instr.alloc,hv,newVar,newRow,hcs,bx]
 exact tZ
theorem Mem.store1{w:World}(h:Mem N H L w){i b off:Nat}{T:TypeId}{cs:List Value}{v:Value}(hi:L i=some (b,bx T cs))(ho:off<cs.length)(hv:v.oneCell'=true) :
   (store ⟨b,off,none⟩ v).run P w = .ok () (w.setCell ⟨b,off,none⟩ v)/\Mem N H (lupd L i (some (b,bx T (cs.set off v)))) (w.setCell ⟨b,off,none⟩ v):=by
 have hb:=h.l i b _ hi;have hlt:b<w.heap.size:=by
   grind
 have hc:w.cell? ⟨b,off,none⟩=some cs[off]:=by simp[CB,hb,bx,ho]
 have hf:w.frozen? ⟨b,off,none⟩=false:=by simp[World.frozen?,hb,bx]
 constructor;rw[run_store P w _ v .plain hv];simp[stored,hc,hf];refine h.set hi Y Y Y ?_ (λc o hne ho'=>?_);simp only[G2,C6,if_true,hb];simp[bx,List.setIfInBounds_toArray];simp only[G2,C6];grind
theorem Mz_{b off i:Nat}{T0:TypeId}{cs:List Value}{v:Value}(hx:ev F x = .pointer (some ⟨b,off,none⟩))(hy:ev F y=v)(hv:v.oneCell'=true)(hk:Sz P T 1)(hi:L i=some (b,bx T0 cs))(ho':Nat.blt off cs.length=true)
   (k:K F H (lupd L i (some (b,bx T0 (cs.set off v))))):Op1 P n N ops ⟨none, .store T x y,ty,pos,af,none⟩ K F H L:=by
 intro a w ha hm;rw[if_pos pH];unfold BG;have ho:off<cs.length:=by simpa using ho'
 have⟨hs,hm'⟩:=hm.store1 (P:=P) hi ho hv;have hcells:v.cells = #[v]:=by cases v<;>first|rfl|cases hv
 have :(execOp a.eval ⟨none, .store T x y,ty,pos,af,none⟩).run P w = .ok .skip (w.setCell ⟨b,off,none⟩ v):=by
   rw[ha.eval]
   simp[execOp,G3,hx,hy,E3,storeVar,hcells,hk w,storeCells,G8_,hs]
 rw[this];exact⟨_,_,_,ha,hm',k⟩
def Ql_(cs:List Value):Nat->List Value->List Value
 |_,[]=>cs
 |off,v::r=>Ql_ (cs.set off v) (off+1) r
theorem setAt_length(cs:List Value)(off:Nat)(vs:List Value):(Ql_ cs off vs).length=cs.length:=by
 induction vs generalizing cs off with
 |nil=>rfl
 |cons v r ih=>simp[Ql_,ih]
theorem Mem.storeA{T0:TypeId}(b i off0:Nat):∀ (vs cs:List Value) (j:Nat) (L:Ls) (w:World),Mem N H L w->L i=some (b,bx T0 cs)->off0+j+vs.length<=cs.length->(∀ v∈vs,v.oneCell'=true) ->
   ∃ w' L',(storeCells ⟨b,off0,none⟩ vs j).run P w = .ok () w'/\Mem N H L' w'/\(∀ q,q≠i->L' q=L q)/\L' i=some (b,bx T0 (Ql_ cs (off0+j) vs))
 |[],cs,j,L,w,hm,hi,_,_=>⟨w,L,rfl,hm,λ_ _=>rfl,hi⟩
 |v::r,cs,j,L,w,hm,hi,hl,h1=>by
   have⟨hs,hm'⟩:=hm.store1 (P:=P) (off:=off0+j) hi (by simp at hl;omega) (h1 v pC)
   have⟨w',L',e1,e2,e3,e4⟩:=Mem.storeA b i off0 r (cs.set (off0+j) v) (j+1) _ _ hm' (C4_ _ _ _) (by simp at hl ⊢;omega) (λu hu=>h1 u (by simp[hu]))
   refine⟨w',L',?_,e2,λq hq=>by rw[e3 q hq,Cx_ hq],?_⟩
   . simp only[storeCells,G8_,C8,hs,Result.andThen]
     exact e1
   . rw[e4];simp[Ql_,BY]
theorem op1_storeA{b off i m:Nat}{T0:TypeId}{cs vs:List Value}(hx:ev F x = .pointer (some ⟨b,off,none⟩))(hy:ev F y = .agg vs.toArray)(hv:vs.all Value.oneCell'=true)(hk:Sz P T m)(hm:vs.length=m)(hi:L i=some (b,bx T0 cs))(ho':Nat.ble (off+vs.length) cs.length=true)
   (k:K F H (lupd L i (some (b,bx T0 (Ql_ cs off vs))))):Op1 P n N ops ⟨none, .store T x y,ty,pos,af,none⟩ K F H L:=by
 intro a w ha hmm;rw[if_pos pH];unfold BG;have ho:off+vs.length<=cs.length:=by simpa using ho'
 have⟨w',L',e1,e2,e3,e4⟩:=Mem.storeA (P:=P) b i off vs cs 0 L w hmm hi (by simpa using ho) (λv h=>List.all_eq_true.1 hv v h);have :(execOp a.eval ⟨none, .store T x y,ty,pos,af,none⟩).run P w = .ok .skip w':=by
   rw[ha.eval]
   simp[execOp,G3,hx,hy,E3,storeVar,ES,hk w,hm,e1]
 rw[this];have hL:L'=lupd L i (some (b,bx T0 (Ql_ cs off vs))):=funext λq=>by
   by_cases e:q=i
   . subst e;rw[C4_,e4];rfl
   . rw[Cx_ e,e3 q e]
 subst hL;exact⟨_,_,_,ha,e2,k⟩
def memB:List Nat->Nat->Bool
 |[],_=>false
 |s::r,t=>bif AR t s then true else memB r t
def mask(S:List Nat)(J F:Fr):Fr:=λt=>bif memB S t then J t else F t
def Off(S:List Nat)(G F:Fr):Prop:=∀ t,memB S t=false->G t=F t
theorem off_mask{S:List Nat}{J F:Fr}:Off S (mask S J F) F:=λt h=>by simp[mask,h]
theorem off_refl{S:List Nat}{F:Fr}:Off S F F:=λ_ _=>rfl
theorem off_upd{S:List Nat}{G F:Fr}{d:Nat}{v:Value}(h:memB S d=true)(k:Off S G F):Off S (upd G d v) F:=λt ht=>by
 have :t≠d:=λe=>by subst e;rw[h] at ht;cases ht
 rw[upd_ne this];exact k t ht
theorem off_mask2{S S2:List Nat}{J G F:Fr}(h:S2.all (memB S)=true)(k:Off S G F):Off S (mask S2 J G) F:=λt ht=>by
 have :memB S2 t=false:=by
   cases e:memB S2 t with
   |false=>rfl
   |true=>
     have hm:t∈S2:=by
       clear h
       induction S2 with
       |nil=>cases e
       |cons s r ih=>
         simp only[memB] at e
         cases q:AR t s with
         |true=>rw[AM q];simp
         |false=>rw[q] at e;exact AI _ (ih e)
     grind
 simp only[mask,this,cond_false];exact k t ht
theorem mask_intro{S:List Nat}{G F:Fr}(h:Off S G F):G=mask S G F:=funext λt=>by
 unfold mask
 cases e:memB S t with
 |true=>rfl
 |false=>exact h t e
theorem upd_intro{G G':Fr}{s:Nat}{v:Value}(h:G=G')(hv:G s=v):G=upd G' s v:=funext λt=>by
 by_cases e:t=s
 . subst e;rw[upd_same];exact hv
 . rw[upd_ne e,h]
def Zy_(S:List Nat)(J L:Ls):Ls:=λt=>bif memB S t then J t else L t
def OffL(S:List Nat)(G L:Ls):Prop:=∀ t,memB S t=false->G t=L t
theorem offl_mask{S:List Nat}{J L:Ls}:OffL S (Zy_ S J L) L:=λt h=>by simp[Zy_,h]
theorem offl_refl{S:List Nat}{L:Ls}:OffL S L L:=λ_ _=>rfl
theorem offl_upd{S:List Nat}{G L:Ls}{d:Nat}{v:Option (Nat×Obj)}(h:memB S d=true)(k:OffL S G L):OffL S (lupd G d v) L:=λt ht=>by
 have :t≠d:=λe=>by subst e;rw[h] at ht;cases ht
 rw[Cx_ this];exact k t ht
theorem offl_mask2{S S2:List Nat}{J G L:Ls}(h:S2.all (memB S)=true)(k:OffL S G L):OffL S (Zy_ S2 J G) L:=λt ht=>by
 have :memB S2 t=false:=by
   cases e:memB S2 t with
   |false=>rfl
   |true=>
     have hm:t∈S2:=by
       clear h
       induction S2 with
       |nil=>cases e
       |cons s r ih=>
         simp only[memB] at e
         cases q:AR t s with
         |true=>rw[AM q];simp
         |false=>rw[q] at e;exact AI _ (ih e)
     grind
 simp only[Zy_,this,cond_false];exact k t ht
theorem Yf_{S:List Nat}{G L:Ls}(h:OffL S G L):G=Zy_ S G L:=funext λt=>by
 unfold Zy_
 cases e:memB S t with
 |true=>rfl
 |false=>exact h t e
theorem Rv_{G G':Ls}{s:Nat}{v:Option (Nat×Obj)}(h:G=G')(hv:G s=v):G=lupd G' s v:=funext λt=>by
 by_cases e:t=s
 . subst e;rw[C4_];exact hv
 . rw[Cx_ e,h]
def LI5{α:Type}{β:Type}{γ:Type}{δ:Type}{ε:Type}(S SL:List Nat)(F:Fr)(H:Hp)(L:Ls)(live:α->β->γ->δ->ε->Fr->Fr)(Lm:α->β->γ->δ->ε->Ls->Ls)(Φ:α->β->γ->δ->ε->Hp->Prop)(μ:α->β->γ->δ->ε->Nat):Nat->Fr->Hp->Ls->Prop:=λm F' H' L'=>
 ∃ x1 x2 x3 x4 x5 J JL,F'=live x1 x2 x3 x4 x5 (mask S J F)/\L'=Lm x1 x2 x3 x4 x5 (Zy_ SL JL L)/\HLe H H'/\Φ x1 x2 x3 x4 x5 H'/\μ x1 x2 x3 x4 x5=m
theorem cw_loop5{α:Type}{β:Type}{γ:Type}{δ:Type}{ε:Type}{c:Code}{Q:Qt}(S SL:List Nat)(live:α->β->γ->δ->ε->Fr->Fr)(Lm:α->β->γ->δ->ε->Ls->Ls)(Φ:α->β->γ->δ->ε->Hp->Prop)(μ:α->β->γ->δ->ε->Nat)(y1:α)(y2:β)(y3:γ)(y4:δ)(y5:ε)
   (h0:F=live y1 y2 y3 y4 y5 (mask S F F)) (h1:L=Lm y1 y2 y3 y4 y5 (Zy_ SL L L)) (h2:Φ y1 y2 y3 y4 y5 H)
   (round:∀ x1 x2 x3 x4 x5 J JL H',Φ x1 x2 x3 x4 x5 H'->HLe H H'->Cw P n N c (loopK (LI5 S SL F H L live Lm Φ μ) (μ x1 x2 x3 x4 x5) Q) (live x1 x2 x3 x4 x5 (mask S J F)) H' (Lm x1 x2 x3 x4 x5 (Zy_ SL JL L))):Cw P n N (.loop c) Q F H L:=by
 refine cw_loop (LI5 S SL F H L live Lm Φ μ) (μ y1 y2 y3 y4 y5) ⟨y1,y2,y3,y4,y5,F,L,h0,h1, .refl _,h2,rfl⟩ λm F' H' L' hI=>?_;obtain⟨x1,x2,x3,x4,x5,J,JL,rfl,rfl,hl,hp,rfl⟩:=hI;grind
theorem next5{α:Type}{β:Type}{γ:Type}{δ:Type}{ε:Type}{Q:Qt}{S SL:List Nat}{live:α->β->γ->δ->ε->Fr->Fr}{Lm:α->β->γ->δ->ε->Ls->Ls}{Φ:α->β->γ->δ->ε->Hp->Prop}{μ:α->β->γ->δ->ε->Nat}{m:Nat}{F':Fr}{H':Hp}{L':Ls}(x1':α)(x2':β)(x3':γ)(x4':δ)(x5':ε)
   (h0:F'=live x1' x2' x3' x4' x5' (mask S F' F)) (h1:L'=Lm x1' x2' x3' x4' x5' (Zy_ SL L' L)) (hl:HLe H H') (h2:Φ x1' x2' x3' x4' x5' H') (hm:μ x1' x2' x3' x4' x5'<m):loopK (LI5 S SL F H L live Lm Φ μ) m Q .normal F' H' L':=
 ⟨_,hm,x1',x2',x3',x4',x5',F',L',h0,h1,hl,h2,rfl⟩
theorem D4_{b:Bool}(h:(!b)=true):b=false:=by simpa using h
theorem D0_{b:Bool}(h:(!b)=false):b=true:=by simpa using h
theorem dt{p:Prop}[Decidable p](h:decide p=true):p:=of_decide_eq_true h
theorem df{p:Prop}[Decidable p](h:decide p=false):¬p:=of_decide_eq_false h
theorem fd{p:Prop}[Decidable p](h:¬p):decide p=false:=decide_eq_false h
theorem pr_cw{m:Nat}{f:FuncId}{fn:Func}{c:Code}{args:Array Value}{H:Hp}{v:Value}(hf:P.funcs[f]? = some fn)(hb:fn.body=some c)(hn:fn.ntmps=m)(hs:Nat.ble args.size m=true)
   (h:∀ N,Cw P m N c (fnK P N fn H (λv' _ _=>v'=v)) (L0_ args) H l0):Pr P f args H v:=by
 subst hn;exact pr_of_cw hf hb (by simpa using hs) h
variable{op:Op}
theorem op1_in{m:Nat}{f:FuncId}{fn:Func}{c:Code}{args:Array Value}(he:En P op F f args)(hf:P.funcs[f]? = some fn)(hb:fn.body=some c)(hn:fn.ntmps=m)(hs:Nat.ble args.size m=true)(hd:Nat.blt d n=true)
   (h:Cw P m N c (fnK P N fn H (λv H' L'=>K (upd F d v) H' L')) (L0_ args) H L):Op1 P n N ops ⟨some d,op,ty,pos,af,none⟩ K F H L:=by
 intro a w ha hm;subst hn;rw[if_pos pH];unfold BG;rw[ha.eval,he];exact I1_ hf hb (by simpa using hs) h hm λv H' L' w' hk _ hm'=>⟨_,H',L',ha.put pI v,hm',hk⟩
def evp(F:Fr):List (Nat×Operand)->List (Nat×Value)
 |[]=>[]
 |x::r=>(x.1,ev F x.2)::evp F r
theorem evp_map(F:Fr)(l:List (Nat×Operand)):l.map (λp=>(p.1,ev F p.2))=evp F l:=by
 induction l with
 |nil=>rfl
 |cons x r ih=>simp[evp,ih]
theorem lo_build{ps:List (Nat×Operand)}{vs:List (Nat×Value)}{v:Value}(hv:evp F ps=vs)(h:∀ w,(Instr.build T vs.toArray).run P w = .ok v w):Lo P N (.build T ps.toArray) ty F H L v:=λd pos af g w _=>by
 subst hv
 have :=h w
 simp[execOp,evp_map,this]
def Rm_:List (Nat×Value)->List Value
 |[]=>[]
 |x::r=>x.2.cells.toList++Rm_ r
def inOrder(k:Nat):Nat->List (Nat×Value)->Prop
 |_,[]=>True
 |i,x::r=>x.1=i/\x.2.cells.size=k/\inOrder k (i+1) r
theorem fill_one(cs:List Value):∀ (vs:List Value) (j off:Nat) (c:Array Value),off+j+vs.length<=c.size ->
   ((vs.zipIdx j).foldl (λcs (p:Value×Nat)=>cs.setIfInBounds (off+p.2) p.1) c).toList=c.toList.take (off+j)++vs++c.toList.drop (off+j+vs.length)
 |[],j,off,c,h=>by simp
 |v::r,j,off,c,h=>by
   simp only[A2] at h
   rw[List.zipIdx_cons,BU,fill_one cs r (j+1) off _ pL]
   simp only[Array.toList_setIfInBounds,A2]
   have hlt:off+j<c.toList.length:=by simp;omega
   have e1:(c.toList.set (off+j) v).take (off+(j+1))=c.toList.take (off+j)++[v]:=by
     rw[show off+(j+1)=(off+j)+1 by omega,CO,D9 (AX _)]
     grind
   have e2:(c.toList.set (off+j) v).drop (off+(j+1)+r.length)=c.toList.drop (off+j+(r.length+1)):=by
     rw[DE qX]
     congr 1
     omega
   rw[e1,e2];simp
theorem fill_all(k:Nat):∀ (ps:List (Nat×Value)) (i:Nat) (c:Array Value),inOrder k i ps->(i+ps.length)*k<=c.size ->
   ∃ c',Instr.fill (λi=>some (i*k,k)) c ps=some c'/\c'.toList=c.toList.take (i*k)++Rm_ ps++c.toList.drop ((i+ps.length)*k)
 |[],i,c,_,h=>⟨c,rfl,by simp[Rm_]⟩
 |p::r,i,c,ho,h=>by
   have⟨h1,h2,h3⟩:=ho
   have⟨q,v⟩:=p
   simp only at h1 h2
   subst h1
   simp only[A2] at h
   have hle:q*k+k<=c.size:=by
     have :(q+1)*k<=(q+(r.length+1))*k:=BP k qX
     rw[AV,EA] at this
     omega
   have hsz:∀ (l:List (Value×Nat)) (c:Array Value),(l.foldl (λcs (p:Value×Nat)=>cs.setIfInBounds (q*k+p.2) p.1) c).size=c.size:=by
     intro l
     induction l with
     |nil=>intro c;rfl
     |cons x r ih=>intro c;rw[BU,ih];simp
   have hz:(v.cells.zipIdx.foldl (λcs (p:Value×Nat)=>cs.setIfInBounds (q*k+p.2) p.1) c)=(v.cells.toList.zipIdx.foldl (λcs (p:Value×Nat)=>cs.setIfInBounds (q*k+p.2) p.1) c):=by
     rw[<- F7,F2]
   have⟨c',e1,e2⟩:=fill_all k r (q+1) (v.cells.zipIdx.foldl (λcs (p:Value×Nat)=>cs.setIfInBounds (q*k+p.2) p.1) c) h3 (by rw[hz,hsz];rw[show q+1+r.length=q+(r.length+1) by omega];exact h)
   refine⟨c',?_,?_⟩
   . have hcond:(v.cells.size≠k || decide (q*k+v.cells.size>c.size))=false:=by
       simp[h2];omega
     simp only[F8]
     rw[if_neg (by simpa using hcond)]
     exact e1
   . rw[e2,hz,fill_one [] v.cells.toList 0 (q*k) c pL]
     have hl:v.cells.toList.length=k:=by simpa using h2
     simp only[DZ,hl]
     have t1:((q+1)*k)=q*k+k:=by rw[AV,EA]
     have ht:(c.toList.take (q*k)).length=q*k:=by simp;omega
     have e3:((c.toList.take (q*k)++v.cells.toList++c.toList.drop (q*k+k)).take ((q+1)*k))=c.toList.take (q*k)++v.cells.toList:=by
       rw[t1];exact List.take_left' (by rw[A4,hl,ht])
     have e4:((c.toList.take (q*k)++v.cells.toList++c.toList.drop (q*k+k)).drop ((q+1+r.length)*k))=c.toList.drop ((q+(r.length+1))*k):=by
       have t2:(q+1+r.length)*k=(q*k+k)+r.length*k:=by rw[AV,t1]
       have t3:(q+(r.length+1))*k=(q*k+k)+r.length*k:=by rw[<- t2];congr 1;omega
       have hA:(c.toList.take (q*k)++v.cells.toList).length=q*k+k:=by rw[A4,hl,ht]
       rw[t2,t3,List.drop_append,hA,List.drop_of_length_le qX,AN,List.drop_drop]
       congr 1
       omega
     rw[e3,e4];simp[Rm_]
theorem op1_bslice{e k len:Nat}{ps:List (Nat×Operand)}{vs:List (Nat×Value)}{cs:List Value}(i:Nat)(hd:Nat.blt d n=true)(hT:P.underlying T=some (.slice e))(hk:Sz P e k)(hz:∃ z,∀ w,(zeroValue e).run P w = .ok z w)(hv:evp F ps=vs)(ho:inOrder k 0 vs)(hl:vs.length=len)(hc:Rm_ vs=cs)(hs:len*k<=16777216)
   (kk:∀ b,K (upd F d (.slice (some ⟨b,0,none⟩) len len)) H (lupd L i (some (b,bx e cs)))):Op1 P n N ops ⟨some d, .buildSlice T len ps.toArray,ty,pos,af,none⟩ K F H L:=by
 intro a w ha hm;rw[if_pos pH];unfold BG;subst hv;subst hl;have⟨z,hz⟩:=hz;have :(execOp a.eval ⟨some d, .buildSlice T (evp F ps).length ps.toArray,ty,pos,af,none⟩).run P w = .ok (.value (.slice (some ⟨w.heap.size,0,none⟩) (evp F ps).length (evp F ps).length)) {w with heap:=w.heap.push (bx e cs)}:=by
   rw[ha.eval]
   have hlim:¬((evp F ps).length*k>2 ^ 24):=by have :(2:Nat) ^ 24=16777216:=rfl;omega
   have key:∀ zero:Array Value,∃ c',F8 (λi=>some (i*k,k)) ((GE ((evp F ps).length*k)).map (zero[· % zero.size]!)) (evp F ps)=some c'/\c'=cs.toArray:=λzero=>by
     have⟨c',h1,h2⟩:=fill_all k (evp F ps) 0 ((GE ((evp F ps).length*k)).map (zero[· % zero.size]!)) ho pC
     refine⟨c',h1,?_⟩
     apply E4
     rw[h2,hc]
     simp
   simp only[execOp,Instr.buildSlice,C8,run_underlying hT,DF,hk w,hlim,if_false]
   simp only[List.map_toArray,evp_map]
   by_cases h0:(evp F ps).length*k=0
   . have⟨c',h1,h2⟩:=key #[]
     simp[h0] at h1
     simp[h0,h1,h2,newRow,bx]
   . have⟨c',h1,h2⟩:=key z.cells
     simp[h0,hz w,h1,h2,newRow,bx]
 rw[this];exact yD
variable{T2:TypeId}
def OwnV(k:Nat)(e:TypeId)(v:Value)(en:Option (Nat×Obj))(len:Nat)(cs:List Value):Prop:=
 cs.length=len*k/\((v = .slice none 0 0/\len=0/\en=none) \/
   ∃ b cap c f,v = .slice (some ⟨b,f.length,none⟩) len cap/\en=some (b,bx e (f++c))/\cap*k<=c.length/\len<=cap/\c.take (len*k)=cs/\(k=1->f=[]))
theorem Ry_{k:Nat}{e:TypeId}:OwnV k e (.slice none 0 0) none 0 []:=⟨by simp, .inl ⟨rfl,rfl,rfl⟩⟩
theorem ownV_bx{k:Nat}{e:TypeId}{b len:Nat}{cs:List Value}(h:cs.length=len*k):OwnV k e (.slice (some ⟨b,0,none⟩) len len) (some (b,bx e cs)) len cs:=
 ⟨h, .inr ⟨b,len,cs,[],rfl,rfl,by omega,AX _,by rw[<- h,List.take_length],λ_=>rfl⟩⟩
def Src(P:Program)(N:Rest)(H:Hp)(L:Ls)(k:Nat)(sv:Value)(m:Nat)(news:List Value):Prop:=
 news.length=m*k/\∀ w,Mem N H L w->(CK sv).run P w = .ok m w/\(AF k m sv).run P w = .ok news.toArray w
theorem src_bx{k b len cap i:Nat}{e:TypeId}{cs:List Value}(hi:L i=some (b,bx e cs))(hl:cs.length=len*k):Src P N H L k (.slice (some ⟨b,0,none⟩) len cap) len cs:=by
 refine⟨hl,λw hm=>⟨by simp[CK],?_⟩⟩
 have :=run_loadCells_list (P:=P) w ⟨b,0,none⟩ cs (λj v hj=>by
   rw[G8_,B9]
   exact hm.cellL hi hj)
 rw[hl] at this;simpa [AF] using this
def By(P:Program)(t:TypeId)(b:Nat):Prop:=∀ w,∃ i,(typeInfo t).run P w = .ok i w/\i.bytes=b
def noInt:TypeDesc->Bool
 | .slice _=>true
 | .string=>true
 |_=>false
theorem setAt_app(f:List Value):∀ (vs cs:List Value) (off:Nat),Ql_ (f++cs) (f.length+off) vs=f++Ql_ cs off vs
 |[],_,_=>rfl
 |v::r,cs,off=>by
   have :=setAt_app f r (cs.set off v) (off+1)
   simp only[Ql_]
   rw[List.set_append_right _ _ qX,C5,BY,this]
theorem setAt_take:∀ (vs cs:List Value) (off:Nat),off+vs.length<=cs.length->(Ql_ cs off vs).take (off+vs.length)=cs.take off++vs
 |[],cs,off,_=>by simp[Ql_]
 |v::r,cs,off,h=>by
   simp only[A2] at h
   have :=setAt_take r (cs.set off v) (off+1) pL
   simp only[Ql_,A2]
   rw[show off+(r.length+1)=off+1+r.length by omega,this]
   rw[CO,D9 (AX _)]
   have hlt:off<cs.length:=by omega
   simp[hlt]
set_option maxHeartbeats 2000000 in
theorem app_room{k len m cap:Nat}{e ats:TypeId}{d2:TypeDesc}{sv:Value}{base:Option Addr}{w:World}(hT:P.underlying T=some (.slice e))(hT2:P.underlying T2=some d2)(hd2:noInt d2=true)(hk:Sz P e k)(hlen:(Builtin.lenOf sv).run P w = .ok m w)(hle:len+m<=cap) :
   (Builtin.append_ #[T,T2] ats #[.slice base len cap,sv]).run P w =
     (do
       let new <- Builtin.firstCells k m sv
       if let some a:=base then storeCells (a.add (len*k)) new.toList
       pure (.slice base (len+m) cap):Sem Value).run P w:=by
 cases d2<;>first
   |(simp[noInt] at hd2;done)
   |(cases base<;>simp[CA,run_underlying hT,run_underlying hT2,hk w,hlen,hle])
set_option maxHeartbeats 2000000 in
theorem app_grow{k len m cap:Nat}{e ats:TypeId}{d2:TypeDesc}{sv:Value}{base:Option Addr}{w:World}{inf:TypeInfo}(hT:P.underlying T=some (.slice e))(hT2:P.underlying T2=some d2)(hd2:noInt d2=true)(hk:Sz P e k)(hlen:(Builtin.lenOf sv).run P w = .ok m w)(hle:¬len+m<=cap)
   (hinf:(typeInfo e).run P w = .ok inf w) (hb0:¬inf.bytes=0) (hf:¬(281474976710656<Builtin.nextslicecap (len+m) cap*inf.bytes)) :
   (Builtin.append_ #[T,T2] ats #[.slice base len cap,sv]).run P w =
     (do
       let newCap <- choose (.appendCap (len+m) cap e)
       askRoom (newCap*(<- typeInfo e).bytes)
       let old <- Builtin.firstCells k len (.slice base len cap)
       let new <- Builtin.firstCells k m sv
       let rest:=Builtin.zeroCells (<- zeroValue e).cells (newCap-(len+m))
       pure (.slice (some (<- newRow e (old++new++rest))) (len+m) newCap):Sem Value).run P w:=by
 cases d2<;>first
   |(simp[noInt] at hd2;done)
   |(simp[CA,run_underlying hT,run_underlying hT2,hk w,hlen,hle,hinf,hb0,hf])
theorem op1_app{k bytes len m:Nat}{e:TypeId}{d2:TypeDesc}{v sv:Value}{zs cs news:List Value}(i:Nat)(hx:ev F x=v)(hy:ev F y=sv)(hT:P.underlying T=some (.slice e))(hT2:P.underlying T2=some d2)(hd2:noInt d2=true)(hk:Sz P e k)(hb:By P e bytes)(h0:0<bytes)
   (hz:Zr P e zs) (ho:OwnV k e v (L i) len cs) (hs:Src P N H L k sv m news) (hone:∀ u∈news,u.oneCell'=true) (hzl:zs.length=k) (hbd:(len+m)*bytes<=140737488355328) (hd:Nat.blt d n=true)
   (kk:∀ v' en',OwnV k e v' en' (len+m) (cs++news)->K (upd F d v') H (lupd L i en')):Op1 P n N ops ⟨some d, .call ⟨.builtin .append,#[x,y],#[T,T2]⟩,ty,pos,af,none⟩ K F H L:=by
 intro a w ha hm;rw[if_pos pH];unfold BG;have⟨hcl,hown⟩:=ho;have hsz:len+m<=(len+m)*bytes:=Nat.le_mul_of_pos_right _ h0
 suffices hr:∃ v' en' w',(∀ ats,(CA #[T,T2] ats #[v,sv]).run P w = .ok v' w')/\OwnV k e v' en' (len+m) (cs++news)/\Mem N H (lupd L i en') w' by
   have⟨v',en',w',h1,h2,h3⟩:=hr
   have :(execOp a.eval ⟨some d, .call ⟨.builtin .append,#[x,y],#[T,T2]⟩,ty,pos,af,none⟩).run P w = .ok (.value v') w':=by
     rw[ha.eval]
     refine F4_ (args:=#[v,sv]) oR λcs=>?_
     simp[builtin,h1]
   rw[this]
   exact⟨_,H,_,ha.put pI _,h3,kk v' en' h2⟩
 have⟨inf,hinf,hbb⟩:=hb w;have⟨hlen,hcells⟩:=hs.2 w hm;have hb0:¬inf.bytes=0:=by omega
 have hroom:∀ (ats:TypeId) (base:Option Addr) (cap:Nat),len+m<=cap->(CA #[T,T2] ats #[.slice base len cap,sv]).run P w =
     (do
       let new <- AF k m sv
       if let some a:=base then storeCells (a.add (len*k)) new.toList
       pure (.slice base (len+m) cap):Sem Value).run P w:=λats base cap hle=>app_room hT hT2 hd2 hk hlen hle
 have hgrow:∀ (ats:TypeId) (base:Option Addr) (cap:Nat),¬len+m<=cap->(CA #[T,T2] ats #[.slice base len cap,sv]).run P w =
     (do
       let newCap <- choose (.appendCap (len+m) cap e)
       askRoom (newCap*(<- typeInfo e).bytes)
       let old <- AF k len (.slice base len cap)
       let new <- AF k m sv
       let rest:=AH (<- zeroValue e).cells (newCap-(len+m))
       pure (.slice (some (<- newRow e (old++new++rest))) (len+m) newCap):Sem Value).run P w:=λats base cap hle=>by
   have hfit:=growslice_fits (need:=len+m) (old:=cap) (bytes:=bytes) qX hbd
   exact app_grow hT hT2 hd2 hk hlen hle hinf hb0 (by rw[hbb];omega)
 rcases hown with ⟨rfl,rfl,hL⟩|⟨b,cap,c,f,rfl,hL,hcl2,hle,htk,hff⟩
 have hcs:cs=[]:=List.length_eq_zero_iff.1 (by simpa using hcl);subst hcs;simp only[B9] at hgrow hroom hbd ⊢;by_cases hm0:m=0;subst hm0;have hn:news=[]:=List.length_eq_zero_iff.1 (by simpa using hs.1);subst hn;refine⟨.slice none 0 0,none,w,λats=>?_,by simpa using Ry_,?_⟩;rw[hroom _ _ _ qX];simp[hcells];exact hm.clear i;obtain⟨nc,hnc⟩:∃ nc,nc=(BB m 0 e).cut (w.tape w.drawn (BB m 0 e)):=⟨_,rfl⟩;have hnge:m<=nc:=by rw[hnc];simp only[E6];omega
 refine⟨.slice (some ⟨w.heap.size,0,none⟩) m nc,some (w.heap.size,bx e (news++(AH zs.toArray (nc-m)).toList)),_,λats=>?_,⟨by simp[hs.1], .inr ⟨_,_,news++(AH zs.toArray (nc-m)).toList,[],rfl,rfl,FF ?_,?_,?_,λ_=>rfl⟩⟩,(hm.drew (w.drawn+1)).push i _⟩;rw[hgrow _ _ _ qX];have⟨z,hz1,hz2⟩:=hz w.drew;have⟨inf',hinf',_⟩:=hb w.drew;have⟨_,hcells'⟩:=hs.2 w.drew (hm.drew (w.drawn+1));have hq:(BB m 0 e).forced=false:=rfl;have hnil:(AF k 0 (.slice none 0 0)).run P w.drew = .ok #[] w.drew:=by simp[AF]
 simp[hq,hinf',hcells',hz1,hz2,newRow,bx,hnil,<- hnc];exact sC
 . have hzc:∀ q,(AH zs.toArray q).size=q*k:=λq=>by simp[AH,hzl]
   simp only[A4,DA,hzc,hs.1]
   rw[<- AV]
   congr 1
   omega
 exact hnge;rw[AN,show m*k=news.length by rw[hs.1]];exact G4;by_cases hfit:len+m<=cap;have hnl:=hs.1;have hle2:len*k+news.length<=c.length:=by
   rw[hnl,<- AV];exact AK (BP k hfit) hcl2
 have⟨w',L',e1,e2,e3,e4⟩:=Mem.storeA (P:=P) b i (f.length+len*k) news (f++c) 0 L w hm hL pL hone;have hLL:L'=lupd L i (some (b,bx e (f++Ql_ c (len*k) news))):=funext λq=>by
   by_cases e':q=i
   . subst e';rw[C4_,e4,DZ,setAt_app]
   . rw[Cx_ e',e3 q e']
 subst hLL;refine⟨.slice (some ⟨b,f.length,none⟩) (len+m) cap,_,w',λats=>?_,⟨by simp[hcl,hnl,AV], .inr ⟨b,cap,Ql_ c (len*k) news,f,rfl,rfl,by rw[setAt_length];exact hcl2,hfit,?_,hff⟩⟩,e2⟩;rw[hroom _ _ _ hfit];simp[hcells,G8_,e1];rw[AV,<- hnl,setAt_take _ _ _ qX,htk];obtain⟨nc,hnc⟩:∃ nc,nc=(BB (len+m) cap e).cut (w.tape w.drawn (BB (len+m) cap e)):=⟨_,rfl⟩;have hnge:len+m<=nc:=by rw[hnc];simp only[E6];omega
 refine⟨.slice (some ⟨w.heap.size,0,none⟩) (len+m) nc,some (w.heap.size,bx e (cs++news++(AH zs.toArray (nc-(len+m))).toList)),_,λats=>?_,⟨by simp[hcl,hs.1,AV], .inr ⟨_,_,cs++news++(AH zs.toArray (nc-(len+m))).toList,[],rfl,rfl,FF ?_,?_,?_,λ_=>rfl⟩⟩,(hm.drew (w.drawn+1)).push i _⟩;rw[hgrow _ _ _ hfit];have⟨z,hz1,hz2⟩:=hz w.drew;have⟨inf',hinf',_⟩:=hb w.drew;have⟨_,hcells'⟩:=hs.2 w.drew (hm.drew (w.drawn+1));have hold0:(loadCells ⟨b,f.length,none⟩ (len*k)).run P w.drew = .ok cs.toArray w.drew:=by
   have :=run_loadCells_list (P:=P) w.drew ⟨b,f.length,none⟩ cs (λj v hj=>by
     rw[G8_]
     refine Mem.cellL (w:=w.drew) (hm.drew (w.drawn+1)) hL ?_
     rw[BK qX,C5]
     rw[<- htk,BE] at hj
     split at hj
     . exact hj
     . cases hj)
   rwa [hcl] at this
 have hq:(BB (len+m) cap e).forced=false:=rfl;have hold:(AF k len (.slice (some ⟨b,f.length,none⟩) len cap)).run P w.drew = .ok cs.toArray w.drew:=by simpa [AF] using hold0
 simp[hq,hinf',hcells',hz1,hz2,newRow,bx,hold,<- hnc];exact sC
 . have hzc:∀ q,(AH zs.toArray q).size=q*k:=λq=>by simp[AH,hzl]
   simp only[A4,DA,hzc,hs.1,hcl]
   rw[<- AV,<- AV]
   congr 1
   omega
 exact hnge;rw[show (len+m)*k=(cs++news).length by simp[hcl,hs.1,AV]];exact G4
end Go.SW
namespace Go.SW
variable{P:Program}{n:Nat}{N:Rest}{F:Fr}{H:Hp}{L:Ls}{ty T T' T2:TypeId}{x y z:Operand}
variable{ops:List Oper}{op:Op}{d:Nat}{pos:String}{af:Array Edge}{K:Fr->Hp->Ls->Prop}
def u8v(c:UInt8):Value:= .int .u8 c.toNat
def u8E:Hp->UInt8->List Value->Prop:=λ_ c cs=>cs=[u8v c]
def FE{α:Type}(enc:α->List Value)(wf:α->Prop):Hp->α->List Value->Prop:=λ_ x cs=>cs=enc x/\wf x
theorem Mem.pushH{w:World}(h:Mem N H L w)(o:Obj):Mem N (hadd H w.heap.size o) L {w with heap:=w.heap.push o}/\HLe H (hadd H w.heap.size o):=by
 have hb:∀ (b:Nat) o',w.heap[b]? = some o'->b<w.heap.size:=λb o' x=>by
   grind
 have hk:∀ (b:Nat) o',w.heap[b]? = some o'->(w.heap.push o)[b]? = some o':=λb o' x=>by
   grind
 have hH:H w.heap.size=none:=by
   cases q:H w.heap.size with
   |none=>rfl
   |some o1=>have :=hb _ _ (h.h _ _ q);omega
 refine⟨⟨h.os,h.tape,h.output,λb o' x=>hk _ _ (h.n b o' x),λb o' x=>?_,λi b o' x=>hk _ _ (h.l i b o' x),λb o' x=>?_,λi b o' x=>⟨(h.nl i b o' x).1,?_⟩,h.ll⟩,hadd_le hH⟩;by_cases e:b=w.heap.size;subst e;simp[hadd] at x;subst x;simp;simp[hadd,e] at x;exact hk _ _ (h.h b o' x);have :=hb b o' (h.n b o' x);have e:b≠w.heap.size:=by omega
 simp[hadd,e];exact h.nh b o' x;have :=hb b o' (h.l i b o' x);have e:b≠w.heap.size:=by omega
 simp[hadd,e];exact (h.nl i b o' x).2
theorem op1_s2b{e:TypeId}{a:Bs}(hx:ev F x=str a)(hT:P.underlying T=some .string)(hT':P.underlying T'=some (.slice e))(he:P.underlying e=some (.int .u8))(hd:Nat.blt d n=true)
   (k:∀ b cap H',HLe H H'->SlH u8E 1 H' (.slice (some ⟨b,0,none⟩) a.length cap) a->K (upd F d (.slice (some ⟨b,0,none⟩) a.length cap)) H' L):Op1 P n N ops ⟨some d, .convert T T' x,ty,pos,af,none⟩ K F H L:=by
 intro ac w ha hm;rw[if_pos pH];unfold BG;have hs:=run_bytes_of_string (P:=P) w T T' e ⟨a.toArray⟩ hT hT' he;rw[Mc_] at hs;obtain⟨q,hq⟩:∃ q,q=grownCap w a.length 0 e:=⟨_,rfl⟩;rw[<- hq] at hs;obtain⟨o,ho⟩:∃ o,o=Obj.cells (bytesRow ⟨a.toArray⟩ q) e ((bytesRow ⟨a.toArray⟩ q).size,(bytesRow ⟨a.toArray⟩ q).size+1):=⟨_,rfl⟩;rw[<- ho] at hs;have h1:(execOp ac.eval ⟨some d, .convert T T' x,ty,pos,af,none⟩).run P w = .ok (.value (.slice (some ⟨w.heap.size,0,none⟩) a.length q)) {w.drew with heap:=w.heap.push o}:=by
   rw[ha.eval]
   simp[execOp,hx,str,hs]
   rfl
 rw[h1];have⟨hm',hl⟩:=(Mem.drew hm (w.drawn+1)).pushH o;refine⟨_,_,L,ha.put pI _,hm',k _ _ _ hl ⟨⟨_,_,rfl,by rw[hq];simp[grownCap,E6]⟩,λm hmm=>⟨[u8v a[m]],rfl,w.heap.size,0,a.length,q,bytesRow ⟨a.toArray⟩ q,e,((bytesRow ⟨a.toArray⟩ q).size,(bytesRow ⟨a.toArray⟩ q).size+1),rfl,?_,rfl,λj hj=>?_⟩⟩⟩;subst ho;simp[hadd];obtain rfl :j=0:=by omega
 simp only[bytesRow,B9,GT,DZ];rw[Array.getElem?_append_left (by simpa using hmm)];simp[hmm,u8v]
theorem u8v_of{z:Int}(h0:0<=z)(h1:z<=255):u8v (UInt8.ofNat z.toNat) = .int .u8 z:=by
 unfold u8v;rw[UInt8.toNat_ofNat'];grind
theorem lo_len_own{k len e:Nat}{v:Value}{en:Option (Nat×Obj)}{cs:List Value}{e':TypeId}(hx:ev F x=v)(ho:OwnV k e v en len cs)(hT:P.underlying T=some (.slice e')):Lo P N (.call ⟨.builtin .len,#[x],#[T]⟩) ty F H L (.int .i64 len):=by
 obtain⟨_,⟨rfl,rfl,_⟩|⟨b,cap,c,f,rfl,_⟩⟩:=ho;exact Uk_ hx hT;exact Uk_ hx hT
def usd:Value->Value
 | .slice (some a) _ _=> .pointer (some a)
 |_=> .pointer none
theorem lo_usd{k len e:Nat}{v:Value}{en:Option (Nat×Obj)}{cs:List Value}{ats:Array TypeId}(hx:ev F x=v)(ho:OwnV k e v en len cs)(h0:len=0->v = .slice none 0 0):Lo P N (.call ⟨.builtin .unsafeSliceData,#[x],ats⟩) ty F H L (usd v):=λd pos af g w _=>by
 refine F4_ (args:=#[v]) pR λcs=>?_
 obtain⟨_,⟨rfl,rfl,_⟩|⟨b,cap,c,f,rfl,_,_,hle,_⟩⟩:=ho
 . simp[builtin,Lib.run_unsafeSliceData_nil,usd]
 . have :cap≠0:=λe=>by
     subst e
     have :=h0 qX
     cases this
   simp[builtin,Lib.run_unsafeSliceData_row _ _ _ _ _ _ this,usd]
theorem op1_ustr{e T1 T3:TypeId}{v:Value}{l:Bs}(i:Nat)(hx:ev F x=usd v)(hy:ev F y = .int .i64 l.length)(hT:P.underlying T1=some (.pointer e))(hc:P.cellsOf e=1)(ho:OwnV 1 e v (L i) l.length (l.map u8v))(h0:l.length=0->v = .slice none 0 0)(h63:l.length<=9223372036854775807)(hd:Nat.blt d n=true)
   (k:K (upd F d (str l)) H (lupd L i none)):Op1 P n N ops ⟨some d, .call ⟨.builtin .unsafeString,#[x,y],#[T1,T3]⟩,ty,pos,af,none⟩ K F H L:=by
 intro ac w ha hm;rw[if_pos pH];unfold BG
 rcases ho with ⟨_,⟨rfl,hl,_⟩|⟨b,cap,c,f,rfl,hL,hcl,hle,htk,hff⟩⟩
 have hln:l=[]:=List.length_eq_zero_iff.1 hl;subst hln;have :(execOp ac.eval ⟨some d, .call ⟨.builtin .unsafeString,#[x,y],#[T1,T3]⟩,ty,pos,af,none⟩).run P w = .ok (.value (str [])) w:=by
   rw[ha.eval]
   refine F4_ (args:=#[.pointer none, .int .i64 0]) (by simp[hx,hy,usd]) λcs=>?_
   have :=Lib.run_unsafeString_none (P:=P) (w:=w) T1 T3 ty none
   simp[builtin,this,str]
   rfl
 rw[this];exact⟨_,H,_,ha.put pI _,hm.clear i,k⟩
 . have hl0:l≠[]:=λq=>by subst q;have :=h0 Y;cases this
   obtain rfl :=hff Y
   simp only[AN,List.length_nil] at *
   have hb:=hm.l i b _ hL
   have this :(execOp ac.eval ⟨some d, .call ⟨.builtin .unsafeString,#[x,y],#[T1,T3]⟩,ty,pos,af,none⟩).run P w = .ok (.value (str l)) (w.freeze ⟨b,0,none⟩ l.length):=by
     rw[ha.eval]
     refine F4_ (args:=#[.pointer (some ⟨b,0,none⟩), .int .i64 l.length]) (by simp[hx,hy,usd]) λcs=>?_
     have :=Lib.run_unsafeString_row (P:=P) (w:=w) T1 T3 ty e hT hc b c.length (by simp [EK,hb,bx]) l hl0 (by simp at hcl;omega) h63 (λj q hj=>by
       rw[G8_,B9]
       refine hm.cellL hL ?_
       have hjl:j<l.length:=(List.getElem?_eq_some_iff.1 hj).1
       have h2:=congrArg (λr:List Value=>r[j]?) htk
       simp only[GT,BE,hjl,if_true,DJ,hj,C1] at h2
       exact h2)
     simp[builtin,this,str]
   rw[this]
   refine⟨_,H,_,ha.put pI _,?_,k⟩
   have hln:l.length≠0:=by simpa using hl0
   obtain⟨o',ho'⟩:∃ o',(w.freeze ⟨b,0,none⟩ l.length).heap[b]? = some o':=by
     simp[GA,hln,C6,hb,bx]
   have hset:=hm.set (w':=w.freeze ⟨b,0,none⟩ l.length) (o':=o') hL oW oW oW ho' (λc' o hne hq=>by
     simp only[GA,hln,if_false,C6]
     rw[if_neg (λq=>hne q.symm)];exact hq)
   have :=hset.clear i
   have heq:lupd (lupd L i (some (b,o'))) i none=lupd L i none:=funext λj=>by
     by_cases q:j=i
     . subst q;rw[C4_,C4_]
     . rw[Cx_ q,Cx_ q,Cx_ q]
   rwa [heq] at this
theorem lo_pne_self{p:Addr}{e:TypeId}{j:TypeInfo}(hx:ev F x = .pointer (some p))(hy:ev F y = .pointer (some p))(hT:P.underlying T=some (.pointer e))(he:P.info? e=some j):Lo P N (.binOp .neq T x y T') ty F H L (.bool false):=
 G0_ hx hy (λw=>Pe_ w) λw=>Lib.run_neq_ptr_same w p hT he
theorem lo_pnil{e:TypeId}(hx:ev F x = .pointer none)(hy:ev F y = .pointer none)(hT:P.underlying T=some (.pointer e)):Lo P N (.binOp .eql T x y T') ty F H L (.bool true):=
 G0_ hx hy (λw=>Pe_ w) λw=>by
   have h:∀ d,(D4 (d+1) T (.pointer none) (.pointer none)).run P w = .ok true w:=λd=>by simp[D4,run_underlying hT]
   simp[binOp,Pg_ h]
theorem lo_toUnsafe{b i:Nat}{t e:TypeId}{j:TypeInfo}{cs:List Value}(hx:ev F x = .pointer (some ⟨b,0,none⟩))(hi:L i=some (b,bx e cs))(hcs':Nat.blt 0 cs.length=true)(hs:P.underlying T=some (.pointer t))(hd:P.underlying T'=some .unsafePointer)(ht:P.info? t=some j)(hj:j.size≠0):Lo P N (.convert T T' x) ty F H L (.pointer (some ⟨b,0,none⟩)):=λd pos af g w hm=>by
 have hb:=hm.l i b _ hi
 have hcs:0<cs.length:=by simpa using hcs'
 have :=Lib.run_to_unsafe (P:=P) w (e:=e) (cells:=cs.length) ⟨b,0,none⟩ hs hd ht hj (by simp[EK,hb,bx]) hcs
 simp[execOp,hx,this]
theorem lo_fromUnsafe{b i:Nat}{u e:TypeId}{j:TypeInfo}{cs:List Value}(hx:ev F x = .pointer (some ⟨b,0,none⟩))(hi:L i=some (b,bx e cs))(hs:P.underlying T=some .unsafePointer)(hd:P.underlying T'=some (.pointer u))(hu:P.info? u=some j)(hl:liesAt P P.depth e (cs.length/P.cellsOf e) 0 u 1=true):Lo P N (.convert T T' x) ty F H L (.pointer (some ⟨b,0,none⟩)):=λd pos af g w hm=>by
 have hb:=hm.l i b _ hi
 have :=Lib.run_from_unsafe (P:=P) w (e:=e) (cells:=cs.length) ⟨b,0,none⟩ hs hd hu (by simp[EK,hb,bx]) hl
 simp[execOp,hx,this]
def NoEsc(P:Program)(f:FuncId):Prop:=∀ v w,(callFunc f #[v]).run P w = .ok (.value v) w
theorem noEsc_of{f:FuncId}{fn:Func}(hf:P.funcs[f]? = some fn)(hname:(fn.name == "runtime.NumGoroutine")=false)(hb:fn.body.isNone=true)(hn:Extern.findNext fn=none)(he:Extern.find fn=some Extern.AbiNoEscape.same):NoEsc P f:=λv w=>by
 rw[run_callFunc_extern hf hname hb hn he];rw[Lib.run_noEscape];rfl
theorem lo_noEsc{f:FuncId}{v:Value}{ats:Array TypeId}(hf:NoEsc P f)(hx:ev F x=v):Lo P N (.call ⟨.value (.func f),#[x],ats⟩) ty F H L v:=λd pos af g w _=>by
 subst hx
 have :=hf (ev F x) w
 have e:ev F (.func f) = .func (.func f) #[] #[]:=rfl
 simp[execOp,resolve,F0,e,invoke,this]
theorem cw_anyX{id:Nat}{l:List Oper}{Q:Qt}(i:Nat)(hmx:P.follows .mixedOrders=true)(h:Vw P n N l (lupd L i none) Q l.length (Array.replicate l.length false) F H L):Cw P n N (.region id l.toArray true) Q F H L:=cw_any hmx (lupd L i none) h
theorem Hf_{L:Ls}{i:Nat}:LLe (lupd L i none) L:=λj w hw=>by
 by_cases e:j=i
 . subst e;rw[C4_] at hw;cases hw
 . rwa [Cx_ e] at hw
theorem L3_{A B:Ls}{i:Nat}{v:Option (Nat×Obj)}(h:LLe A B)(hi:A i=none):LLe A (lupd B i v):=λj w hw=>by
 have :j≠i:=λe=>by subst e;rw[hi] at hw;cases hw
 rw[Cx_ this];exact h j w hw
theorem lupd_eta{L:Ls}{i:Nat}{v:Option (Nat×Obj)}(h:L i=v):lupd L i v=L:=funext λj=>by
 by_cases e:j=i
 . subst e;rw[C4_,h]
 . rw[Cx_ e]
theorem exInfo{t:TypeId}(h:(P.info? t).map (λi=>decide (i.size=0))=some false):∃ j,P.info? t=some j/\j.size≠0:=by
 simp_all
theorem by_of{t b:Nat}(h:(P.info? t).map (·.bytes)=some b):By P t b:=λw=>by
 cases e:P.info? t with
 |none=>rw[e] at h;cases h
 |some j=>rw[e] at h;simp at h;exact⟨j,by simp[typeInfo,e],h⟩
theorem ownV_one{k e len:Nat}{v:Value}{en:Option (Nat×Obj)}{cs:List Value}(h:OwnV k e v en len cs):v.oneCell'=true:=by
 obtain⟨_,⟨rfl,_⟩|⟨b,cap,c,f,rfl,_⟩⟩:=h<;>rfl
theorem ownV_cast{k e len len':Nat}{v:Value}{en:Option (Nat×Obj)}{cs cs':List Value}(h:OwnV k e v en len cs)(hl:len=len')(hc:cs=cs'):OwnV k e v en len' cs':=by subst hl;subst hc;exact h
theorem nz_of{k e len:Nat}{v:Value}{en:Option (Nat×Obj)}{cs:List Value}(_:OwnV k e v en len cs)(h:0<len):len=0->v = .slice none 0 0:=λh0=>by omega
def strE:Hp->Bs->List Value->Prop:=FE (λs=>[str s]) (λs=>s.length<=9223372036854775807)
def GInt(H:Hp)(g:Nat):Prop:=∃ m T r,H g=some (.cells #[.int .i64 m] T r)
theorem GInt.mono{H H':Hp}{g:Nat}(h:GInt H g)(hl:HLe H H'):GInt H' g:=by
 have⟨m,T,r,e⟩:=h;exact⟨m,T,r,hl _ _ e⟩
theorem GInt.cell{H:Hp}{g:Nat}{N:Rest}{L:Ls}{w:World}(h:GInt H g)(hm:Mem N H L w):∃ m,w.cell? ⟨g,0,none⟩=some (.int .i64 m):=by
 have⟨m,T,r,e⟩:=h;have :=hm.h _ _ e;refine⟨m,?_⟩;simp[CB,this]
theorem ph_strs{f:FuncId}{args:Array Value}{H:Hp}{T:TypeId}{xs:List Bs}(hx:∀ s∈xs,s.length<=9223372036854775807)(h:∀ N L w,Mem N H L w->Calls P f args w λe w'=>e = .returned (.slice (some ⟨w.heap.size,0,none⟩) xs.length xs.length)/\w'=w.alloc (.cells (xs.map str).toArray T)) :
   Ph P f args H (λv H'=>∃ (a:Option Addr) (c:Nat),v = .slice a xs.length c/\SlH strE 1 H' (.slice a xs.length c) xs):=by
 intro N L w hm;refine (h N L w hm).mono λe w' ⟨he,hw⟩=>?_;have⟨hm',hl⟩:=Mem.pushH hm (.cells (xs.map str).toArray T);subst hw;refine⟨_,_,he,⟨_,_,rfl,⟨_,_,rfl,AX _⟩,λm hmm=>⟨[str xs[m]],⟨rfl,hx _ (List.getElem_mem hmm)⟩,w.heap.size,0,xs.length,xs.length,(xs.map str).toArray,T,(0,0),rfl,?_,rfl,λj hj=>?_⟩⟩,hl,hm'⟩;simp[hadd];grind
theorem slh_nil{α:Type}{E:Hp->α->List Value->Prop}{k:Nat}{H:Hp}:SlH E k H (.slice none 0 0) []:=⟨⟨_,_,rfl,B5 _⟩,λm h=>by cases h⟩
variable{α:Type}
def slA(a:Option Addr)(c l k:Nat):Option Addr:=if c=l then a else a.map (·.add (l*k))
theorem slh_sub{E:Hp->α->List Value->Prop}{k m q:Nat}{a:Option Addr}{c l:Nat}{xs:List α}(h:SlH E k H (.slice a l c) xs)(h1:m<=q)(h2:q<=xs.length) :
   SlH E k H (.slice (slA a c m k) (q-m) (c-m)) ((xs.drop m).take (q-m)):=by
 have⟨⟨a',c',e,hc⟩,hx⟩:=h
 cases e
 have hl:((xs.drop m).take (q-m)).length=q-m:=by simp;omega
 refine⟨⟨_,_,by rw[hl],by omega⟩,λj hj=>?_⟩;rw[hl] at hj;have hj2:m+j<xs.length:=by omega
 have⟨cs,hE,b,off,l',cap,cc,T,fr,e1,e2,e3,e4⟩:=hx (m+j) hj2;have he:((xs.drop m).take (q-m))[j]'(by rw[hl];exact hj)=xs[m+j]:=by simp
 rw[he]
 cases e1
 refine⟨cs,hE,b,off+m*k,q-m,c-m,cc,T,fr,?_,e2,e3,λi hi=>?_⟩;have :c≠m:=by omega
 simp[slA,this,G8_];grind
theorem slh_take{E:Hp->α->List Value->Prop}{k q:Nat}{a:Option Addr}{c l:Nat}{xs:List α}(h:SlH E k H (.slice a l c) xs)(h2:q<=xs.length):SlH E k H (.slice (slA a c 0 k) q c) (xs.take q):=by
 simpa using slh_sub (m:=0) h (B5 _) h2
theorem slh_drop{E:Hp->α->List Value->Prop}{k m:Nat}{a:Option Addr}{c l:Nat}{xs:List α}(h:SlH E k H (.slice a l c) xs)(h2:m<=xs.length):SlH E k H (.slice (slA a c m k) (l-m) (c-m)) (xs.drop m):=by
 have⟨⟨a',c',e,hc⟩,hx⟩:=h
 cases e
 have :=slh_sub (m:=m) (q:=xs.length) (⟨⟨a,c,rfl,hc⟩,hx⟩:SlH E k H (.slice a xs.length c) xs) h2 (AX _)
 rwa [AZ pC] at this
theorem Qv_{k':IntKind}{j:Int}{hi:Operand}{a:Option Addr}{l c k:Nat}{e:TypeId}(q:Nat)(hx:ev F x = .slice a l c)(hhi:ev F hi = .int k' j)(hT:P.underlying T=some (.slice e))(hk:Sz P e k)(h0:j=(q:Int))(h2:q<=c) :
   Lo P N (.slice T x none (some hi) none) ty F H L (.slice (slA a c 0 k) q c):=λd pos af g w _=>by
 subst h0
 simp[execOp,C7,CM,BT,BX,hx,hhi,run_underlying hT,asIntOf,h2,hk w,slA]
theorem Qw_{k':IntKind}{i:Int}{lo:Operand}{a:Option Addr}{l c k:Nat}{e:TypeId}(m:Nat)(hx:ev F x = .slice a l c)(hlo:ev F lo = .int k' i)(hT:P.underlying T=some (.slice e))(hk:Sz P e k)(h0:i=(m:Int))(h2:m<=l) :
   Lo P N (.slice T x (some lo) none none) ty F H L (.slice (slA a c m k) (l-m) (c-m)):=λd pos af g w _=>by
 subst h0
 simp[execOp,C7,CM,BT,BX,hx,hlo,run_underlying hT,asIntOf,h2,hk w,slA]
theorem lo_slice_slh{k' k2:IntKind}{i j:Int}{lo hi:Operand}{a:Option Addr}{l c k:Nat}{e:TypeId}(m q:Nat)(hx:ev F x = .slice a l c)(hlo:ev F lo = .int k' i)(hhi:ev F hi = .int k2 j)(hT:P.underlying T=some (.slice e))(hk:Sz P e k)(h0:i=(m:Int))(hq:j=(q:Int))(h1:m<=q)(h2:q<=c) :
   Lo P N (.slice T x (some lo) (some hi) none) ty F H L (.slice (slA a c m k) (q-m) (c-m)):=λd pos af g w _=>by
 subst h0;subst hq
 simp[execOp,C7,CM,BT,BX,hx,hlo,hhi,run_underlying hT,asIntOf,h1,h2,hk w,slA]
def scK(Q:Qt):Qt:=λe F H L=>
 match e with
 | .goto _=>False
 |e=>Q e F H L
theorem cw_scope{c:Code}{Q:Qt}(h:Cw P n N c (scK Q) F H L):Cw P n N (.scope c) Q F H L:=by
 intro a w ha hm;refine wp_scope_straight (wp_mono (h a w ha hm) λe a' w' q=>?_);have⟨F',H',L',ha',hm',hq⟩:=q
 cases e<;>first|exact hq.elim|exact⟨F',H',L',ha',hm',hq⟩
theorem Mem.giveO{w:World}{i:Nat}{en:Option (Nat×Obj)}(hm:Mem N H L w)(hi:L i=en):∃ H',HLe H H'/\(∀ b o,en=some (b,o)->H' b=some o)/\Mem N H' (lupd L i none) w:=by
 cases en with
 |none=>exact⟨H, .refl _,λ_ _ h=>oE,hm.clear i⟩
 |some p=>
   have⟨b,o⟩:=p
   have⟨h1,h2⟩:=hm.give hi
   exact⟨_,h2,λb' o' e=>by cases e;simp[hadd],h1⟩
theorem cw_giveO{c:Code}{Q:Qt}{en:Option (Nat×Obj)}(i:Nat)(hi:L i=en)(k:∀ H',HLe H H'->(∀ b o,en=some (b,o)->H' b=some o)->Cw P n N c Q F H' (lupd L i none)):Cw P n N c Q F H L:=λa w ha hm=>
 let ⟨_,h1,h2,h3⟩:=hm.giveO hi;k _ h1 h2 a w ha h3
theorem ow_giveO{rest:List Oper}{Q:Qt}{en:Option (Nat×Obj)}(i:Nat)(hi:L i=en)(k:∀ H',HLe H H'->(∀ b o,en=some (b,o)->H' b=some o)->Ow P n N ops rest Q F H' (lupd L i none)):Ow P n N ops rest Q F H L:=λa w ha hm=>
 let ⟨_,h1,h2,h3⟩:=hm.giveO hi;k _ h1 h2 a w ha h3
def EqV(P:Program)(d:Nat)(t:TypeId)(u v:Value)(r:Bool):Prop:=∀ w,(D4 d t u v).run P w = .ok r w
def EqF(P:Program)(d:Nat)(xs ys:List Value)(fs:List Field)(r:Bool):Prop:=∀ w,(GX d xs.toArray ys.toArray fs).run P w = .ok r w
theorem EqV.to'{d:Nat}{t:TypeId}{u v:Value}{r r':Bool}(h:EqV P d t u v r)(e:r=r'):EqV P d t u v r':=e ▸ h
theorem De_{d:Nat}{t:TypeId}{k k':IntKind}{a b:Int}(h:P.underlying t=some (.int k')):EqV P (d+1) t (.int k a) (.int k b) (decide (a=b)):=λw=>by
 rw[run_equalIn_int w d t k k' a b h];rfl
theorem M4_{d:Nat}{t:TypeId}{a b:Bs}(h:P.underlying t=some .string):EqV P (d+1) t (str a) (str b) (decide (a=b)):=λw=>by
 unfold str
 rw[run_equalIn_string w d t _ _ h,Qn_,Qn_,Ye_]
theorem J1_{d:Nat}{t:TypeId}{fs:Array Field}{xs ys:List Value}{r:Bool}(hu:P.underlying t=some (.struct fs))(h:EqF P d xs ys fs.toList r)(hp:P.stoodInHeld t=false:=by exact qY):EqV P (d+1) t (.agg xs.toArray) (.agg ys.toArray) r:=λw=>by
 have hf:P.fieldsOf t=fs:=by simp[Program.fieldsOf,hu]
 rw[run_equalIn_agg w d t _ _ (by rw[hf];exact hu) hp,hf]
 exact h w
theorem J0_{d:Nat}{xs ys:List Value}:EqF P d xs ys [] true:=λw=>by simp[GX]
theorem eqf_step{d:Nat}{xs ys:List Value}{f:Field}{fs:List Field}{a b:Value}{r r':Bool}(hn:¬f.name = "_")(ha:∀ w,(part f.type xs.toArray f.offset).run P w = .ok a w)(hb:∀ w,(part f.type ys.toArray f.offset).run P w = .ok b w)
   (h:EqV P d f.type a b r) (k:EqF P d xs ys fs r'):EqF P d xs ys (f::fs) (r&&r'):=λw=>by
 simp only[Op.eqFields,ne_eq,hn,not_false_eq_true,if_true,Sem.run_bind,ha w,Result.andThen_ok,hb w,h w]
 cases r
 . simp
 . simpa using k w
theorem part_1{t:TypeId}{xs:List Value}{o:Nat}{a:Value}(hg:Ag P t false)(hx:xs[o]? = some a)(w:World):(part t xs.toArray o).run P w = .ok a w:=by
 simp[part,hg w,hx]
theorem part_A{t:TypeId}{xs vs:List Value}{o k:Nat}(hg:Ag P t true)(hk:Sz P t k)(hx:sub xs o k=vs)(w:World):(part t xs.toArray o).run P w = .ok (.agg vs.toArray) w:=by
 subst hx;simp only[part,C8,hg w,DF,if_true,hk w,Sem.run_pure]
 congr 2
 rw[List.extract_toArray];simp[sub,List.extract_eq_take_drop]
theorem H9_{d:Nat}{xs ys:List Value}{f:Field}{fs:List Field}{a b:Value}{r r':Bool}(hg:Ag P f.type false)(hx:xs[f.offset]? = some a)(hy:ys[f.offset]? = some b)(h:EqV P d f.type a b r)(k:EqF P d xs ys fs r')(hn:¬f.name = "_":=by exact qZ):EqF P d xs ys (f::fs) (r&&r'):=
 eqf_step hn (part_1 hg hx) (part_1 hg hy) h k
theorem Xb_{op:BinOp}{u v:Array Value}(hm:P.eqGuardType P.depth T=false)(w:World):(eqGuard op T x y (.agg u) (.agg v)).run P w = .ok () w:=run_eqGuard_agg w op T x y u v hm
theorem lo_aeql{u v:Array Value}{r:Bool}(hx:ev F x = .agg u)(hy:ev F y = .agg v)(hm:P.eqGuardType P.depth T=false)(h:EqV P 10000 T (.agg u) (.agg v) r):Lo P N (.binOp .eql T x y T') ty F H L (.bool r):=
 G0_ hx hy (Xb_ hm) λw=>by
   have :=h w
   simp[binOp,Op.equal,GY,this]
theorem lo_aneq{u v:Array Value}{r:Bool}(hx:ev F x = .agg u)(hy:ev F y = .agg v)(hm:P.eqGuardType P.depth T=false)(h:EqV P 10000 T (.agg u) (.agg v) r):Lo P N (.binOp .neq T x y T') ty F H L (.bool (!r)):=
 G0_ hx hy (Xb_ hm) λw=>by
   have :=h w
   simp[binOp,Op.equal,GY,this]
end Go.SW
namespace Go.SW
variable{P:Program}{n:Nat}{N:Rest}{F:Fr}{H:Hp}{L:Ls}{ty d:Nat}{ops:List Oper}{op:Op}{pos:String}{af:Array Edge}{K:Fr->Hp->Ls->Prop}{f:FuncId}{args:Array Value}
theorem Mem.take{w w':World}{i b:Nat}{o:Obj}(hm:Mem N H L w)(hi:L i=some (b,o))(h':Mem N (hadd H b o) (lupd L i none) w'):Mem N H L w':=by
 have hn:=hm.nl i b o hi;refine⟨h'.os,h'.tape,h'.output,h'.n,λc x hx=>?_,λj c x hx=>?_,hm.nh,hm.nl,hm.ll⟩;exact h'.h c x (hadd_le hn.2 c x hx);by_cases e:j=i
 . subst e
   rw[hi] at hx;cases hx
   exact h'.h b o (by simp[hadd])
 exact h'.l j c x (by rw[Cx_ e];exact hx)
end Go.SW
namespace Go.SW
variable{P:Program}{n:Nat}{N:Rest}{F:Fr}{H:Hp}{L:Ls}{ty T T' T2:TypeId}{x y z:Operand}
variable{ops:List Oper}{op:Op}{d:Nat}{pos:String}{af:Array Edge}{K:Fr->Hp->Ls->Prop}{α:Type}
def Rl(E:Hp->α->List Value->Prop)(H:Hp):List α->List Value->Prop
 |[],cs=>cs=[]
 |x::xs,cs=>∃ c1 c2,cs=c1++c2/\E H x c1/\Rl E H xs c2
def Mono(E:Hp->α->List Value->Prop):Prop:=∀ H H' x cs,HLe H H'->E H x cs->E H' x cs
def Wide(E:Hp->α->List Value->Prop)(k:Nat):Prop:=∀ H x cs,E H x cs->cs.length=k/\∀ u∈cs,u.oneCell'=true
theorem rl_nil{E:Hp->α->List Value->Prop}:Rl E H [] []:=rfl
theorem Rl.mono{E:Hp->α->List Value->Prop}(hE:Mono E){H':Hp}(hl:HLe H H'):∀ {xs:List α} {cs:List Value},Rl E H xs cs->Rl E H' xs cs
 |[],_,h=>h
 |_::_,_,⟨c1,c2,e,h1,h2⟩=>⟨c1,c2,e,hE _ _ _ _ hl h1,h2.mono hE hl⟩
theorem rl_app{E:Hp->α->List Value->Prop}:∀ {xs ys:List α} {cs ds:List Value},Rl E H xs cs->Rl E H ys ds->Rl E H (xs++ys) (cs++ds)
 |[],_,_,_,h,k=>by cases h;exact k
 |_::_,_,_,_,⟨c1,c2,e,h1,h2⟩,k=>⟨c1,c2++_,by rw[e,List.append_assoc],h1,rl_app h2 k⟩
theorem rl_len{E:Hp->α->List Value->Prop}{k:Nat}(hW:Wide E k):∀ {xs:List α} {cs:List Value},Rl E H xs cs->cs.length=xs.length*k
 |[],_,h=>by cases h;simp
 |_::_,_,⟨c1,c2,e,h1,h2⟩=>by rw[e,A4,(hW _ _ _ h1).1,rl_len hW h2,A2,AV,EA,Nat.add_comm]
theorem rl_one'{E:Hp->α->List Value->Prop}{k:Nat}(hW:Wide E k):∀ {xs:List α} {cs:List Value},Rl E H xs cs->∀ u∈cs,u.oneCell'=true
 |[],_,h=>by cases h;simp
 |_::_,_,⟨c1,c2,e,h1,h2⟩=>λu hu=>by
   rw[e] at hu
   rcases List.mem_append.1 hu with q|q
   . exact (hW _ _ _ h1).2 u q
   . exact rl_one' hW h2 u q
theorem rl_at{E:Hp->α->List Value->Prop}{k:Nat}(hW:Wide E k):∀ {xs:List α} {cs:List Value},Rl E H xs cs->∀ m (h:m<xs.length),∃ ds,E H xs[m] ds/\∀ j,j<k->cs[m*k+j]? = ds[j]?
 |[],_,_,_,h=>by cases h
 | x::xs,_,⟨c1,c2,e,h1,h2⟩,0,_=>⟨c1,h1,λj hj=>by
     rw[e,EB,B9,CR (by rw[(hW _ _ _ h1).1];exact hj)]⟩
 |x::xs,_,⟨c1,c2,e,h1,h2⟩,m+1,h=>by
   have⟨ds,p,q⟩:=rl_at hW h2 m pT
   refine⟨ds,p,λj hj=>?_⟩
   have hl:=(hW _ _ _ h1).1
   rw[e,BK oZ,hl,show (m+1)*k+j-k=m*k+j by rw[AV];omega]
   exact q j hj
theorem slh_ownE{E:Hp->α->List Value->Prop}{k e:Nat}{v:Value}{en:Option (Nat×Obj)}{xs:List α}{cs:List Value}{H':Hp}(hW:Wide E k)(ho:OwnV k e v en xs.length cs)(hr:Rl E H' xs cs)(hH:∀ b o,en=some (b,o)->H' b=some o):SlH E k H' v xs:=by
 obtain⟨hl,⟨rfl,h0,_⟩|⟨b,cap,c,f,rfl,hL,hcl,hle,htk,hff⟩⟩:=ho;have :xs=[]:=List.length_eq_zero_iff.1 h0;subst this;exact⟨⟨_,_,rfl,B5 _⟩,λm h=>by cases h⟩
 refine⟨⟨_,_,rfl,hle⟩,λm h=>?_⟩;have⟨ds,p,q⟩:=rl_at hW hr m h;refine⟨ds,p,b,f.length,xs.length,cap,(f++c).toArray,e,(0,0),rfl,hH b _ hL,(hW _ _ _ p).1,λj hj=>?_⟩;have hlt:m*k+j<xs.length*k:=by
   exact yM
 grind
theorem rl_of{E:Hp->α->List Value->Prop}{k:Nat}{sv:Value}:∀ (xs:List α) (m:Nat) (ys:List α),xs.length=m->(∀ i (h:i<ys.length),∃ cs,E H ys[i] cs/\SlAt H sv k (m+i) cs)->∃ ds,Rl E H ys ds/\(∀ (hW:Wide E k) i (h:i<ys.length),∃ cs,E H ys[i] cs/\SlAt H sv k (m+i) cs/\∀ j,j<k->ds[i*k+j]? = cs[j]?)
 |_,_,[],_,_=>⟨[],rfl,λ_ i h=>by cases h⟩
 |xs,m,y::ys,e,h=>by
   obtain⟨c0,p0,q0⟩:=h 0 pC
   obtain ⟨ds,r,s⟩:=rl_of (xs++[y]) (m+1) ys (by simp [e]) (λi hi=>by
     obtain⟨cs,p,q⟩:=h (i+1) (by simpa using hi)
     exact⟨cs,by simpa using p,by rw[show m+1+i=m+(i+1) by omega];exact q⟩)
   refine⟨c0++ds,⟨c0,ds,rfl,p0,r⟩,λhW i hi=>?_⟩
   cases i with
   |zero=>exact⟨c0,p0,q0,λj hj=>by rw[EB,B9,CR (by rw[(hW _ _ _ p0).1];exact hj)]⟩
   |succ i=>
     obtain⟨cs,p,q,t⟩:=s hW i (by simpa using hi)
     refine⟨cs,by simpa using p,by rw[show m+(i+1)=m+1+i by omega];exact q,λj hj=>?_⟩
     have hl:=(hW _ _ _ p0).1
     rw[BK oZ,hl,show (i+1)*k+j-k=i*k+j by rw[AV];omega]
     exact t j hj
theorem src_slE{E:Hp->α->List Value->Prop}{k:Nat}{sv:Value}{xs:List α}(hW:Wide E k)(h:SlH E k H sv xs):∃ news,Rl E H xs news/\(∀ u∈news,u.oneCell'=true)/\∀ N L,Src P N H L k sv xs.length news:=by
 obtain ⟨ds,hr,hs⟩:=rl_of (H:=H) (k:=k) (sv:=sv) [] 0 xs Y (λi hi=>by
   obtain⟨cs,p,q⟩:=h.2 i hi
   exact⟨cs,p,by rw[B9];exact q⟩)
 have hlen:=rl_len hW hr;refine⟨ds,hr,rl_one' hW hr,λN L=>⟨hlen,λw hm=>?_⟩⟩;obtain⟨⟨a,c,rfl,hc⟩,hx⟩:=h;refine⟨by simp[CK],?_⟩
 cases a with
 |none=>
   have hn:xs=[]:=by
     cases xs with
     |nil=>rfl
     |cons x r=>
       obtain⟨cs,_,b,off,l',cap,cc,T,fr,e1,_⟩:=hx 0 pC
       cases e1
   subst hn
   cases hr
   simp[AF]
 |some a=>
   have hcell:∀ j v,ds[j]? = some v->w.cell? (a.add j)=some v:=by
     intro j v hj
     have hjl:j<xs.length*k:=by rw[<- hlen];exact (List.getElem?_eq_some_iff.1 hj).1
     have hk0:0<k:=by
       grind
     have hm':j/k<xs.length:=(Nat.div_lt_iff_lt_mul hk0).2 hjl
     have hj':j%k<k:=Nat.mod_lt _ hk0
     have hjj:j/k*k+j%k=j:=by rw[Nat.mul_comm];exact Nat.div_add_mod j k
     obtain⟨cs,_,⟨b,off,l',cap,cc,T,fr,e1,e2,e3,e4⟩,h1⟩:=hs hW (j/k) hm'
     cases e1
     have h1:=h1 (j%k) hj'
     rw[hjj,hj] at h1
     have h2:=e4 (j%k) hj'
     rw[<- h1] at h2
     rw[G8_]
     have hw:=hm.h _ _ e2
     rw[B9,BY,hjj] at h2
     simp[CB,hw,h2]
   have :=run_loadCells_list (P:=P) w a ds hcell
   rw[hlen] at this
   simpa [AF] using this
theorem setAt_eq:∀ (vs cs:List Value) (off:Nat),off+vs.length<=cs.length->Ql_ cs off vs=cs.take off++(vs++cs.drop (off+vs.length))
 |[],cs,off,_=>by simp[Ql_]
 |v::r,cs,off,h=>by
   simp only[A2] at h
   rw[Ql_,setAt_eq r _ _ pL]
   have e1:(cs.set off v).take (off+1)=cs.take off++[v]:=by
     rw[CO,D9 (AX _)]
     grind
   have e2:(cs.set off v).drop (off+1+r.length)=cs.drop (off+(v::r).length):=by
     rw[DE qX]
     grind
   rw[e1,e2];simp
theorem Yw_{b off i m:Nat}{T0:TypeId}{cs vs:List Value}(cs':List Value)(hx:ev F x = .pointer (some ⟨b,off,none⟩))(hy:ev F y = .agg vs.toArray)(hv:vs.all Value.oneCell'=true)(hk:Sz P T m)(hm:vs.length=m)(hi:L i=some (b,bx T0 cs))(ho':Nat.ble (off+m) cs.length=true)(hc:cs.take off++(vs++cs.drop (off+m))=cs')
   (k:K F H (lupd L i (some (b,bx T0 cs')))):Op1 P n N ops ⟨none, .store T x y,ty,pos,af,none⟩ K F H L:=by
 subst hm;rw[<- setAt_eq vs cs off (by simpa using ho')] at hc;subst hc;exact op1_storeA hx hy hv hk Y hi ho' k
theorem lo_loadEfA{k k2 m o off:Nat}{sv:Value}{cs vs:List Value}(hx:ev F x = .pointer (some ⟨sBlk sv,sOff sv+m*k+o,none⟩))(hg:Ag P T true)(hk:Sz P T k2)(hs:SlAt H sv k m cs)(hv:sub cs o k2=vs)(hl:vs.length=k2):Lo P N (.load T x) ty F H L (.agg vs.toArray):=λd pos af g w hm=>by
 have hc:=run_loadCells_list (P:=P) w ⟨sBlk sv,sOff sv+m*k+o,none⟩ vs (λj v hj=>by
   rw[G8_]
   subst hv
   simp only[sub,BE,DD] at hj
   split at hj
   . rw[BY];exact hm.cellAt hs hj
   . cases hj)
 exact tU
theorem U3_{k:IntKind}{i:Int}(w:World):(asInt (.int k i)).run P w = .ok i w:=rfl
theorem ownV_cut{k e len:Nat}{v:Value}{en:Option (Nat×Obj)}{cs:List Value}(h:OwnV k e v en len cs):∃ a c,v = .slice a len c/\OwnV k e (.slice a 0 c) en 0 []:=by
 obtain⟨_,⟨rfl,rfl,rfl⟩|⟨b,cap,c,f,rfl,rfl,h1,h2,_,hff⟩⟩:=h;exact⟨_,_,rfl,Ry_⟩;exact⟨_,_,rfl,by simp, .inr ⟨b,cap,c,f,rfl,rfl,h1,B5 _,by simp,hff⟩⟩
theorem lo_cap_sl{sa:Option Addr}{l c:Nat}{e:TypeId}(hx:ev F x = .slice sa l c)(hT:P.underlying T=some (.slice e)):Lo P N (.call ⟨.builtin .cap,#[x],#[T]⟩) ty F H L (.int .i64 c):=λd pos af g w _=>by
 refine F4_ (args:=#[.slice sa l c]) pR λcs=>?_
 simp[builtin,Builtin.cap_,run_underlying hT,goInt]
theorem slA_0{a:Option Addr}{c k:Nat}:slA a c 0 k=a:=by
 unfold slA
 split
 rfl
 . cases a with
   |none=>rfl
   |some a=>simp[Addr.add]
theorem V8_{k':IntKind}{hi:Operand}{a:Option Addr}{l c k:Nat}{e:TypeId}{j:Int}(hx:ev F x = .slice a l c)(hhi:ev F hi = .int k' j)(hT:P.underlying T=some (.slice e))(hk:Sz P e k)(h0:j=0) :
   Lo P N (.slice T x none (some hi) none) ty F H L (.slice a 0 c):=by
 have q:=Qv_ (P:=P) (N:=N) (T:=T) (ty:=ty) (H:=H) (L:=L) (k:=k) 0 hx hhi hT hk qX (B5 _)
 rwa [slA_0] at q
theorem op1_gd{od:Option Nat}{j:Nat}{want b:Bool}(hy:yF ops F j=some (.bool b))(hb:b=want)(h:Op1 P n N ops ⟨od,op,ty,pos,af,none⟩ K F H L):Op1 P n N ops ⟨od,op,ty,pos,af,some (j,want)⟩ K F H L:=by
 intro a w ha hm;have q:=h a w ha hm;rw[if_pos pH] at q;rw[if_pos oU];exact q
theorem lo_makeFuncB{f:FuncId}{xs ys:List Operand}{fs cap:List Value}(hc:evs F xs=fs)(hd:evs F ys=cap):Lo P N (.makeFunc (.func f) xs.toArray ys.toArray) ty F H L (.func (.func f) fs.toArray cap.toArray):=λd pos af g w _=>by
 subst hc;subst hd
 simp[execOp,Instr.makeFunc,evs_map]
theorem foldM_max{k:IntKind}(w:World):∀ (zs:List Int) (z:Int),(((zs.map (Value.int k)).foldlM Builtin.max2 (.int k z)):Sem Value).run P w = .ok (.int k (zs.foldl max z)) w
 |[],z=>rfl
 |y::r,z=>by
   have :(if y>z then y else z)=max z y:=by omega
   simp only[List.map_cons,List.foldlM_cons,BU]
   rw[C8]
   have e:(E9 (.int k z) (.int k y)).run P w = .ok (.int k (max z y)) w:=by simp[E9,this]
   rw[e]
   exact foldM_max w r (max z y)
theorem lo_maxN{k:IntKind}{xs:List Operand}{z r:Int}(zs:List Int){ats:Array TypeId}(hx:evs F xs=(z::zs).map (Value.int k))(hr:zs.foldl max z=r):Lo P N (.call ⟨.builtin .max,xs.toArray,ats⟩) ty F H L (.int k r):=λd pos af g w _=>by
 refine F4_ (args:=((z::zs).map (Value.int k)).toArray) (by simp[evs_map,hx]) λcs=>?_
 have :=foldM_max (P:=P) (k:=k) w zs z
 subst hr
 simp[builtin,FW,this]
theorem equalIn_slnil(d:Nat){a:Option Addr}{l c:Nat}{e:TypeId}(hT:P.underlying T=some (.slice e))(w:World):(Op.equalIn (d+1) T (.slice a l c) (.slice none 0 0)).run P w = .ok a.isNone w:=by
 cases a<;>simp[D4,run_underlying hT]
theorem lo_sleq_nil{a:Option Addr}{l c:Nat}{e:TypeId}(hx:ev F x = .slice a l c)(hy:ev F y = .slice none 0 0)(hT:P.underlying T=some (.slice e)):Lo P N (.binOp .eql T x y T') ty F H L (.bool a.isNone):=
 G0_ hx hy (λw=>by cases a<;>rfl) λw=>by simp[binOp,Pg_ (λd=>equalIn_slnil d hT w)]
theorem slh_none{E:Hp->α->List Value->Prop}{k l c:Nat}{xs:List α}(h:SlH E k H (.slice none l c) xs):xs=[]:=by
 cases xs with
 |nil=>rfl
 |cons x r=>
   have⟨cs,_,b,off,l',cap,cc,T,fr,e1,_⟩:=h.2 0 pC
   cases e1
variable{rest:List Oper}{Q:Qt}
def gv(c:Bool)(v:Value):Value:=bif c then v else undef
theorem bl{a b:Bool}(h:(a&&b)=true):a=true:=by cases a<;>simp_all
theorem br{a b:Bool}(h:(a&&b)=true):b=true:=by cases a<;>simp_all
theorem Rk_{a:Act}(ha:At n a F){j:Nat}(h:yF ops F j=some undef):yielded ops.toArray a.tmps j=none:=by
 unfold yF at h;unfold yielded
 cases ho:ops[j]? with
 |none=>simp[ho] at h
 |some o=>
   rw[ho] at h
   cases hd:o.dst with
   |none=>simp[hd] at h
   |some t=>
     simp[hd] at h
     have hg:=ha.get t
     rw[h,AD] at hg
     have ho':ops.toArray[j]? = some o:=by simp[ho]
     rw[ho',BV,hd,BV]
     cases e:a.tmps[t]? with
     |none=>rfl
     |some u=>
       rw[e] at hg
       simp only[BJ] at hg
       subst hg
       rfl
theorem gq{j:Nat}{want c b:Bool}{v:Value}(hy:yF ops F j=some (gv c (.bool b)))(hd:Nat.blt d n=true)(h:(c&&(b==want))=true->Lo P N op ty F H L v)
   (k:Ow P n N ops rest Q (upd F d (gv (c&&(b==want)) v)) H L):Ow P n N ops (⟨some d,op,ty,pos,af,some (j,want)⟩::rest) Q F H L:=by
 cases c with
 |false=>
   refine ow1 λa w ha hm=>?_
   have :yielded ops.toArray a.tmps j=none:=Rk_ ha hy
   rw[if_neg nQ]
   exact⟨_,_,_,ha.put pI undef,hm,k⟩
 |true=>
   by_cases e:b=want
   . subst e
     have e1:(true&&(b==b))=true:=by simp
     rw[e1] at k
     exact ow1 (op1_g hy Y hd (h e1) k)
   . have e1:(true&&(b==want))=false:=by simpa using e
     rw[e1] at k
     refine ow1 (op1_gs hy ?_ hd k)
     exact zB
section
variable{Lk:Ls}{fuel:Nat}{listed:Array Bool}{v:Value}
theorem vgq{j:Nat}{want c b:Bool}(i:Nat)(hi:ops[i]? = some ⟨some d,op,ty,pos,af,some (j,want)⟩)(hck:(rdB ops listed i&&apB n ops listed i ⟨some d,op,ty,pos,af,some (j,want)⟩&&Nat.blt d n&&nosB op)=true)(hL:LLe (lkOf op Lk) L)(hL0:LLe (λ_=>none) L)
   (hy:yF ops F j=some (gv c (.bool b))) (h:(c&&(b==want))=true->∀ H' L',HLe H H'->LLe (lkOf op Lk) L'->Lo P N op ty F H' L' v) (k:Vw P n N ops Lk Q fuel (listed.setIfInBounds i true) (upd F d (gv (c&&(b==want)) v)) H L):Vw P n N ops Lk Q (fuel+1) listed F H L:=by
 cases c with
 |false=>exact vw_qgx i hi hck hL0 hy k
 |true=>
   by_cases e:b=want
   . subst e
     have e1:(true&&(b==b))=true:=by simp
     rw[e1] at k
     exact vw_qg i hi hck hL hy Y (h e1) k
   . exact yP
theorem vgp{j:Nat}{want c b:Bool}{f:FuncId}{args:Array Value}(i:Nat)(hi:ops[i]? = some ⟨some d,op,ty,pos,af,some (j,want)⟩)(hck:(rdB ops listed i&&apB n ops listed i ⟨some d,op,ty,pos,af,some (j,want)⟩&&Nat.blt d n&&nosB op)=true)(hL0:LLe (λ_=>none) L)
   (hy:yF ops F j=some (gv c (.bool b))) (h:(c&&(b==want))=true->Pr P f args H v) (he:(c&&(b==want))=true->En P op F f args) (k:Vw P n N ops Lk Q fuel (listed.setIfInBounds i true) (upd F d (gv (c&&(b==want)) v)) H L):Vw P n N ops Lk Q (fuel+1) listed F H L:=by
 cases c with
 |false=>exact vw_qgx i hi hck hL0 hy k
 |true=>
   by_cases e:b=want
   . subst e
     have e1:(true&&(b==b))=true:=by simp
     rw[e1] at k
     exact vw_qgc i hi hck hL0 hy Y (h e1) (he e1) k
   . exact yP
end
theorem orl{a b:Bool}(h:(a||b)=false):a=false:=by cases a<;>simp_all
theorem orr{a b:Bool}(h:(a||b)=false):b=false:=by cases a<;>simp_all
def Po(P:Program)(f:FuncId)(args:Array Value)(H:Hp)(R:Value->Hp->Option (Nat×Obj)->Prop):Prop:=
 ∀ N L w i,Mem N H L w->Calls P f args w λe w'=>∃ v H' en,e = .returned v/\R v H' en/\HLe H H'/\Mem N H' (lupd L i en) w'
theorem po_of_cw{f:FuncId}{fn:Func}{c:Code}{args:Array Value}{H:Hp}{R:Value->Hp->Option (Nat×Obj)->Prop}(hf:P.funcs[f]? = some fn)(hb:fn.body=some c)(hs:args.size<=fn.ntmps)
   (h:∀ N,Cw P fn.ntmps N c (fnK P N fn H (λv' H' L'=>∃ k,R v' H' (L' k))) (L0_ args) H l0):Po P f args H R:=
 λN L w i hm=>I1_ hf hb hs (h (N.plus (lupd L i none))) (hm.clear i).aside λv' H' L' w' ⟨k,hr⟩ hl hm'=>by
   cases e:L' k with
   |none=>rw[e] at hr;exact⟨v',H',none,rfl,hr,hl,(hm.clear i).back hm'⟩
   |some p=>
     have⟨b,o⟩:=p
     rw[e] at hr
     exact⟨v',H',some (b,o),rfl,hr,hl,hm.backWith hm' e⟩
end Go.SW
namespace Go.SW
open Go.RowKit
variable{P:Program}{n:Nat}{N:Rest}{F:Fr}{H:Hp}{L:Ls}{ops:List Oper}{ty d:Nat}{pos:String}{af:Array Edge}{K:Fr->Hp->Ls->Prop}{x:Operand}{T:TypeId}
abbrev itr(s:Bs)(p:Nat):Obj:= .stringIter ⟨s.toArray⟩ p
inductive PV where
 |int (k:IntKind) (z:Int)
 |bool (b:Bool)
 |str (s:Bs)
 |agg (cs:List PV)
 |sl {α:Type} (enc:α->List PV) (xs:List α)
 |own (i b off:Nat)
 |osl (i:Nat)
 |el (row:List PV) (o:Nat)
 |fn (f:FuncId) (first cap:List PV)
 |tup (vs:List PV)
 |gv (c:Bool) (v:PV)
 |val (v:Value)
 |usl (u:Value)
 |junk
inductive Sim(H:Hp):PV->Value->Prop
 |int {k:IntKind} {z:Int} (h1:k.min<=z) (h2:z<=k.max):Sim H (.int k z) (.int k z)
 |bool {b:Bool}:Sim H (.bool b) (.bool b)
 |str {s:Bs} (h:s.length<=9223372036854775807):Sim H (.str s) (SW.str s)
 |agg {cs:List PV} {vs:List Value} (hl:vs.length=cs.length) (h:∀ (i:Nat) p v,cs[i]? = some p->vs[i]? = some v->Sim H p v):Sim H (.agg cs) (.agg vs.toArray)
 |sl {α:Type} {enc:α->List PV} {xs:List α} {a:Option Addr} {c:Nat} (k:Nat) (f:Nat->List Value) (hc:xs.length<=c) (hb:xs.length<=140737488355328)
     (h1:∀ (i:Nat) x,xs[i]? = some x->(enc x).length=k/\SlAt H (.slice a xs.length c) k i (f i)/\∀ u∈f i,u.oneCell'=true)
     (h2:∀ (i:Nat) x (j:Nat) p v,xs[i]? = some x->(enc x)[j]? = some p->(f i)[j]? = some v->Sim H p v):Sim H (.sl enc xs) (.slice a xs.length c)
 |own {i b off:Nat}:Sim H (.own i b off) (.pointer (some ⟨b,off,none⟩))
 |osl {i:Nat} {v:Value}:Sim H (.osl i) v
 |el {row:List PV} {o:Nat} {u:Value} {k m:Nat} {cs:List Value} (h1:SlAt H u k m cs) (hl:row.length=k) (h2:∀ (j:Nat) p v,row[j]? = some p->cs[j]? = some v->Sim H p v):Sim H (.el row o) (.pointer (some ⟨sBlk u,sOff u+m*k+o,none⟩))
 |fn {f:FuncId} {ps qs:List PV} {vs us:List Value} (hl:vs.length=ps.length) (hm:us.length=qs.length) (h:∀ (i:Nat) p v,ps[i]? = some p->vs[i]? = some v->Sim H p v) (h':∀ (i:Nat) p v,qs[i]? = some p->us[i]? = some v->Sim H p v):Sim H (.fn f ps qs) (.func (.func f) vs.toArray us.toArray)
 |tup {cs:List PV} {vs:List Value} (hl:vs.length=cs.length) (h:∀ (i:Nat) p v,cs[i]? = some p->vs[i]? = some v->Sim H p v):Sim H (.tup cs) (.tuple vs.toArray)
 |gvt {p:PV} {v:Value} (h:Sim H p v):Sim H (.gv true p) v
 |gvf {p:PV}:Sim H (.gv false p) undef
 |val {v:Value}:Sim H (.val v) v
 |usl {u:Value} (h:u.oneCell'=true):Sim H (.usl u) u
 |junk {v:Value}:Sim H .junk v
theorem Sim.mono{H H':Hp}(hl:HLe H H'){p:PV}{v:Value}(h:Sim H p v):Sim H' p v:=by
 induction h with
 |int h1 h2=>exact .int h1 h2
 |bool=>exact .bool
 |str h=>exact .str h
 |agg hl' _ ih=>exact .agg hl' ih
 |sl k f hc hb h1 _ ih=>exact .sl k f hc hb (λi x hx=>⟨(h1 i x hx).1,(h1 i x hx).2.1.mono hl,(h1 i x hx).2.2⟩) ih
 |own=>exact .own
 |osl=>exact .osl
 |el h1 hl' _ ih=>exact .el (h1.mono hl) hl' ih
 |fn hl' hm _ _ ih ih'=>exact .fn hl' hm ih ih'
 |tup hl' _ ih=>exact .tup hl' ih
 |gvt _ ih=>exact .gvt ih
 |gvf=>exact .gvf
 |val=>exact .val
 |usl h=>exact .usl h
 |junk=>exact .junk
def Sims(H:Hp)(ps:List PV)(vs:List Value):Prop:=vs.length=ps.length/\∀ (i:Nat) p v,ps[i]? = some p->vs[i]? = some v->Sim H p v
theorem Sims.mono{H H':Hp}(hl:HLe H H'){ps:List PV}{vs:List Value}(h:Sims H ps vs):Sims H' ps vs:=⟨h.1,λi p v hp hv=>(h.2 i p v hp hv).mono hl⟩
theorem Sims.nil{H:Hp}:Sims H [] []:=⟨rfl,λi p v h=>by simp at h⟩
theorem Sims.cons{H:Hp}{p:PV}{v:Value}{ps:List PV}{vs:List Value}(h:Sim H p v)(k:Sims H ps vs):Sims H (p::ps) (v::vs):=by
 refine⟨by simp[k.1],λi q u hq hu=>?_⟩
 cases i with
 |zero=>simp at hq hu;subst hq;subst hu;exact h
 |succ i=>exact k.2 i q u oQ (by simpa using hu)
theorem Sims.inv_nil{H:Hp}{vs:List Value}(h:Sims H [] vs):vs=[]:=List.length_eq_zero_iff.1 h.1
theorem Sims.inv_cons{H:Hp}{p:PV}{ps:List PV}{vs:List Value}(h:Sims H (p::ps) vs):∃ v us,vs=v::us/\Sim H p v/\Sims H ps us:=by
 cases vs with
 |nil=>have :=h.1;simp at this
 |cons v us=>exact⟨v,us,rfl,h.2 0 p v Y Y,by have :=h.1;simpa using this,λi q u hq hu=>h.2 (i+1) q u oQ (by simpa using hu)⟩
theorem Sims.get{H:Hp}{ps:List PV}{vs:List Value}(h:Sims H ps vs){i:Nat}{p:PV}(hp:ps[i]? = some p):∃ v,vs[i]? = some v/\Sim H p v:=by
 have hi:i<vs.length:=by
   rw[h.1]
   grind
 exact⟨vs[i],AA hi,h.2 i p _ hp (AA hi)⟩
theorem Sims.append{H:Hp}{ps qs:List PV}{vs us:List Value}(h:Sims H ps vs)(k:Sims H qs us):Sims H (ps++qs) (vs++us):=by
 induction ps generalizing vs with
 |nil=>cases h.inv_nil;exact k
 |cons p r ih=>obtain⟨v,w,rfl,h1,h2⟩:=h.inv_cons;exact (ih h2).cons h1
theorem Sims.take{H:Hp}{ps:List PV}{vs:List Value}(h:Sims H ps vs)(n:Nat):Sims H (ps.take n) (vs.take n):=by
 refine⟨by simp[h.1],λi p v hp hv=>?_⟩;rw[BE] at hp hv
 split at hp
 . rename_i q;rw[if_pos q] at hv;exact h.2 i p v hp hv
 . cases hp
theorem Sims.drop{H:Hp}{ps:List PV}{vs:List Value}(h:Sims H ps vs)(n:Nat):Sims H (ps.drop n) (vs.drop n):=by
 exact uY
def RowE{α:Type}(enc:α->List PV)(k:Nat):Hp->α->List Value->Prop:=λH x cs=>(enc x).length=k/\Sims H (enc x) cs/\∀ u∈cs,u.oneCell'=true
theorem Rc_{α:Type}{enc:α->List PV}{k:Nat}:Mono (RowE enc k):=λ_ _ _ _ hl h=>⟨h.1,h.2.1.mono hl,h.2.2⟩
theorem Ma_{α:Type}{enc:α->List PV}{k:Nat}:Wide (RowE enc k) k:=λ_ _ _ h=>⟨by rw[h.2.1.1,h.1],h.2.2⟩
theorem Sim.of_slh{α:Type}{H:Hp}{enc:α->List PV}{k:Nat}{v:Value}{xs:List α}(h:SlH (RowE enc k) k H v xs)(hb:xs.length<=140737488355328):Sim H (.sl enc xs) v:=by
 classical
 obtain⟨⟨a,c,rfl,hc⟩,hx⟩:=h;let f:Nat->List Value:=λi=>if hi:i<xs.length then (hx i hi).choose else []
 have hf:∀ i (hi:i<xs.length),RowE enc k H xs[i] (f i)/\SlAt H (.slice a xs.length c) k i (f i):=λi hi=>by
   grind
 have hg:∀ (i:Nat) x,xs[i]? = some x->∃ hi:i<xs.length,xs[i]=x:=λi x h=>List.getElem?_eq_some_iff.1 h;refine .sl k f hc hb (λi x hxi=>?_) (λi x j p v hxi hp hv=>?_);obtain⟨hi,rfl⟩:=hg i x hxi;exact⟨(hf i hi).1.1,(hf i hi).2,(hf i hi).1.2.2⟩;obtain⟨hi,rfl⟩:=hg i x hxi;exact (hf i hi).1.2.1.2 j p v hp hv
theorem Sim.slh{α:Type}{H:Hp}{enc:α->List PV}{v:Value}{xs:List α}(h:Sim H (.sl enc xs) v):∃ k,SlH (RowE enc k) k H v xs/\xs.length<=140737488355328:=by
 cases h with
 |sl k f hc hb h1 h2=>
   refine⟨k,⟨⟨_,_,rfl,hc⟩,λm hm=>⟨f m,?_⟩⟩,hb⟩
   have hx:xs[m]? = some xs[m]:=AA hm
   have⟨e1,e2,e3⟩:=h1 m _ hx
   have hl:(f m).length=k:=by have⟨_,_,_,_,_,_,_,_,_,e,_⟩:=e2;exact e
   exact⟨⟨e1,⟨by rw[hl,e1],λj p v hp hv=>h2 m _ j p v hx hp hv⟩,e3⟩,e2⟩
theorem Sim.inv_int{H:Hp}{k:IntKind}{z:Int}{v:Value}(h:Sim H (.int k z) v):v = .int k z/\k.min<=z/\z<=k.max:=by
 cases h with|int h1 h2=>exact⟨rfl,h1,h2⟩
theorem Sim.inv_bool{H:Hp}{b:Bool}{v:Value}(h:Sim H (.bool b) v):v = .bool b:=by cases h;rfl
theorem Sim.inv_str{H:Hp}{s:Bs}{v:Value}(h:Sim H (.str s) v):v=SW.str s/\s.length<=9223372036854775807:=by
 cases h with|str h=>exact⟨rfl,h⟩
theorem Sim.inv_agg{H:Hp}{cs:List PV}{v:Value}(h:Sim H (.agg cs) v):∃ vs,v = .agg vs.toArray/\Sims H cs vs:=by
 cases h with|agg hl h=>exact⟨_,rfl,hl,h⟩
theorem Sim.inv_tup{H:Hp}{cs:List PV}{v:Value}(h:Sim H (.tup cs) v):∃ vs,v = .tuple vs.toArray/\Sims H cs vs:=by
 cases h with|tup hl h=>exact⟨_,rfl,hl,h⟩
theorem Sim.inv_own{H:Hp}{i b off:Nat}{v:Value}(h:Sim H (.own i b off) v):v = .pointer (some ⟨b,off,none⟩):=by cases h;rfl
theorem Sim.inv_fn{H:Hp}{f:FuncId}{ps qs:List PV}{v:Value}(h:Sim H (.fn f ps qs) v):∃ vs us,v = .func (.func f) vs.toArray us.toArray/\Sims H ps vs/\Sims H qs us:=by
 cases h with|fn hl hm h h'=>exact⟨_,_,rfl,⟨hl,h⟩,⟨hm,h'⟩⟩
theorem Sim.inv_el{H:Hp}{row:List PV}{o:Nat}{v:Value}(h:Sim H (.el row o) v):∃ u k m cs,v = .pointer (some ⟨sBlk u,sOff u+m*k+o,none⟩)/\SlAt H u k m cs/\Sims H row cs/\row.length=k:=by
 cases h with|el h1 hl h2=>exact⟨_,_,_,_,rfl,h1,⟨by have⟨_,_,_,_,_,_,_,_,_,e,_⟩:=h1;rw[e,hl],h2⟩,hl⟩
theorem Sim.inv_val{H:Hp}{u v:Value}(h:Sim H (.val u) v):v=u:=by cases h;rfl
theorem Sim.inv_usl{H:Hp}{u v:Value}(h:Sim H (.usl u) v):v=u/\u.oneCell'=true:=by cases h with|usl h=>exact⟨rfl,h⟩
theorem Sim.inv_gv{H:Hp}{c:Bool}{p:PV}{v:Value}(h:Sim H (.gv c p) v):(c=true/\Sim H p v)\/(c=false/\v=undef):=by
 cases h with
 |gvt h=>exact .inl ⟨rfl,h⟩
 |gvf=>exact .inr ⟨rfl,rfl⟩
theorem Sim.toAgg{H:Hp}{cs:List PV}{vs:List Value}(h:Sims H cs vs):Sim H (.agg cs) (.agg vs.toArray):= .agg h.1 h.2
theorem Sim.toTup{H:Hp}{cs:List PV}{vs:List Value}(h:Sims H cs vs):Sim H (.tup cs) (.tuple vs.toArray):= .tup h.1 h.2
theorem Sim.toFn{H:Hp}{f:FuncId}{ps qs:List PV}{vs us:List Value}(h:Sims H ps vs)(k:Sims H qs us):Sim H (.fn f ps qs) (.func (.func f) vs.toArray us.toArray):= .fn h.1 k.1 h.2 k.2
def PV.one:PV->Bool
 | .int _ _=>true
 | .bool _=>true
 | .str _=>true
 | .sl _ _=>true
 | .own _ _ _=>true
 | .el _ _=>true
 | .fn _ _ _=>true
 | .val v=>v.oneCell'
 | .usl _=>true
 |_=>false
theorem Sim.one{H:Hp}{p:PV}{v:Value}(h:Sim H p v)(ho:p.one=true):v.oneCell'=true:=by
 cases h<;>first|rfl|assumption|exact ho|(simp[PV.one] at ho)
mutual
def PV.flat:PV->Bool
 | .int _ _=>true
 | .bool _=>true
 | .str _=>true
 | .tup vs=>PV.flats vs
 | .agg vs=>PV.flats vs
 |_=>false
def PV.flats:List PV->Bool
 |[]=>true
 |p::r=>p.flat&&PV.flats r
end
mutual
theorem Sim.uniq{H H':Hp}:∀ {p:PV} {v v':Value},p.flat=true->Sim H p v->Sim H' p v'->v=v'
 | .int _ _,_,_,_,h,h'=>by rw[h.inv_int.1,h'.inv_int.1]
 | .bool _,_,_,_,h,h'=>by rw[h.inv_bool,h'.inv_bool]
 | .str _,_,_,_,h,h'=>by rw[h.inv_str.1,h'.inv_str.1]
 | .tup vs,_,_,hf,h,h'=>by
   obtain⟨us,rfl,h1⟩:=h.inv_tup
   obtain⟨us',rfl,h2⟩:=h'.inv_tup
   rw[Sims.uniq oS h1 h2]
 | .agg vs,_,_,hf,h,h'=>by
   obtain⟨us,rfl,h1⟩:=h.inv_agg
   obtain⟨us',rfl,h2⟩:=h'.inv_agg
   rw[Sims.uniq oS h1 h2]
 | .sl _ _,_,_,hf,_,_=>by simp[PV.flat] at hf
 | .own _ _ _,_,_,hf,_,_=>by simp[PV.flat] at hf
 | .osl _,_,_,hf,_,_=>by simp[PV.flat] at hf
 | .el _ _,_,_,hf,_,_=>by simp[PV.flat] at hf
 | .fn _ _ _,_,_,hf,_,_=>by simp[PV.flat] at hf
 | .gv _ _,_,_,hf,_,_=>by simp[PV.flat] at hf
 | .val _,_,_,hf,_,_=>by simp[PV.flat] at hf
 | .usl _,_,_,hf,_,_=>by simp[PV.flat] at hf
 | .junk,_,_,hf,_,_=>by simp[PV.flat] at hf
theorem Sims.uniq{H H':Hp}:∀ {ps:List PV} {vs vs':List Value},PV.flats ps=true->Sims H ps vs->Sims H' ps vs'->vs=vs'
 |[],_,_,_,h,h'=>by rw[h.inv_nil,h'.inv_nil]
 |p::r,_,_,hf,h,h'=>by
   obtain⟨v,us,rfl,a1,a2⟩:=h.inv_cons
   obtain⟨v',us',rfl,b1,b2⟩:=h'.inv_cons
   simp only[PV.flats,A3] at hf
   rw[Sim.uniq hf.1 a1 b1,Sims.uniq hf.2 a2 b2]
end
mutual
theorem Sim.flat_any{H H':Hp}:∀ {p:PV} {v:Value},p.flat=true->Sim H p v->Sim H' p v
 | .int _ _,_,_,h=>by cases h with|int h1 h2=>exact .int h1 h2
 | .bool _,_,_,h=>by cases h;exact .bool
 | .str _,_,_,h=>by cases h with|str h=>exact .str h
 | .tup vs,_,hf,h=>by
   obtain⟨us,rfl,h1⟩:=h.inv_tup
   exact Sim.toTup (Sims.flat_any oS h1)
 | .agg vs,_,hf,h=>by
   obtain⟨us,rfl,h1⟩:=h.inv_agg
   exact Sim.toAgg (Sims.flat_any oS h1)
 | .sl _ _,_,hf,_=>by simp[PV.flat] at hf
 | .own _ _ _,_,hf,_=>by simp[PV.flat] at hf
 | .osl _,_,hf,_=>by simp[PV.flat] at hf
 | .el _ _,_,hf,_=>by simp[PV.flat] at hf
 | .fn _ _ _,_,hf,_=>by simp[PV.flat] at hf
 | .gv _ _,_,hf,_=>by simp[PV.flat] at hf
 | .val _,_,hf,_=>by simp[PV.flat] at hf
 | .usl _,_,hf,_=>by simp[PV.flat] at hf
 | .junk,_,hf,_=>by simp[PV.flat] at hf
theorem Sims.flat_any{H H':Hp}:∀ {ps:List PV} {vs:List Value},PV.flats ps=true->Sims H ps vs->Sims H' ps vs
 |[],_,_,h=>by cases h.inv_nil;exact Sims.nil
 |p::r,_,hf,h=>by
   obtain⟨v,us,rfl,a1,a2⟩:=h.inv_cons
   simp only[PV.flats,A3] at hf
   exact (Sims.flat_any hf.2 a2).cons (Sim.flat_any hf.1 a1)
end
mutual
def PV.wf:PV->Prop
 | .int .u8 z=>0<=z/\z<=255
 | .int .u16 z=>0<=z/\z<=65535
 | .int .u32 z=>0<=z/\z<=4294967295
 | .int .u64 z=>0<=z/\z<=18446744073709551615
 | .int .i64 z=>-9223372036854775808<=z/\z<=9223372036854775807
 | .int .i32 z=>-2147483648<=z/\z<=2147483647
 | .int k z=>k.min<=z/\z<=k.max
 | .str s=>s.length<=9223372036854775807
 | .agg cs=>PV.wfs cs
 | .tup cs=>PV.wfs cs
 | .sl enc xs=>xs.length<=140737488355328/\∀ x∈xs,PV.wfs (enc x)
 |_=>True
def PV.wfs:List PV->Prop
 |[]=>True
 |p::r=>p.wf/\PV.wfs r
end
theorem PV.wfs_of:∀ {ps:List PV},(∀ (i:Nat) p,ps[i]? = some p->p.wf)->PV.wfs ps
 |[],_=>by simp[PV.wfs]
 |p::r,h=>by
   simp only[PV.wfs]
   exact⟨h 0 p Y,PV.wfs_of λi q hq=>h (i+1) q oQ⟩
theorem getI{vs:List Value}{n i:Nat}(h:vs.length=n){p:PV}{cs:List PV}(hn:cs.length=n)(hp:cs[i]? = some p):∃ v,vs[i]? = some v:=by
 have hi:i<vs.length:=by
   grind
 simp_all
theorem Sim.wf{H:Hp}{p:PV}{v:Value}(h:Sim H p v):p.wf:=by
 induction h with
 |@int k z h1 h2=>cases k<;>(simp only[PV.wf];exact⟨h1,h2⟩)
 |bool=>simp[PV.wf]
 |str h=>simpa [PV.wf] using h
 |agg hl _ ih=>
   simp only[PV.wf]
   exact PV.wfs_of λi p hp=>by have⟨v,hv⟩:=getI hl Y hp;exact ih i p v hp hv
 |sl k f hc hb h1 _ ih=>
   simp only[PV.wf]
   refine⟨hb,λx hx=>?_⟩
   obtain⟨i,hi,rfl⟩:=List.mem_iff_getElem.1 hx
   have hxi:=AA hi
   have⟨e1,⟨_,_,_,_,_,_,_,_,_,e2,_⟩,_⟩:=h1 i _ hxi
   exact PV.wfs_of λj p hp=>by have⟨v,hv⟩:=getI (e2.trans e1.symm) Y hp;exact ih i _ j p v hxi hp hv
 |own=>simp[PV.wf]
 |osl=>simp[PV.wf]
 |el=>simp[PV.wf]
 |fn=>simp[PV.wf]
 |tup hl _ ih=>
   simp only[PV.wf]
   exact PV.wfs_of λi p hp=>by have⟨v,hv⟩:=getI hl Y hp;exact ih i p v hp hv
 |gvt=>simp[PV.wf]
 |gvf=>simp[PV.wf]
 |val=>simp[PV.wf]
 |usl=>simp[PV.wf]
 |junk=>simp[PV.wf]
theorem Sims.wf{H:Hp}{ps:List PV}{vs:List Value}(h:Sims H ps vs):PV.wfs ps:=PV.wfs_of λi p hp=>by have⟨v,_,h2⟩:=h.get hp;exact h2.wf
inductive Blk where
 |no
 |box (b:Nat) (T:TypeId) (cs:List PV)
 |arr {α:Type} (u:Value) (k:Nat) (e:TypeId) (enc:α->List PV) (xs:List α)
 |itr (b:Nat) (s:Bs) (p:Nat)
 |ob (b:Nat) (o:Obj)
structure St where
 F:Nat->PV
 L:Nat->Blk
def SimT(L:Nat->Blk)(H:Hp):PV->Value->Prop
 | .osl i,v=>match L i with
   | .arr u _ _ _ _=>v=u
   |_=>True
 |p,v=>Sim H p v
def SimTs(L:Nat->Blk)(H:Hp)(ps:List PV)(vs:List Value):Prop:=vs.length=ps.length/\∀ (i:Nat) p v,ps[i]? = some p->vs[i]? = some v->SimT L H p v
theorem SimT.sim{L:Nat->Blk}{H:Hp}{p:PV}{v:Value}(h:SimT L H p v):Sim H p v:=by
 cases p<;>first|exact h|exact .osl
theorem SimTs.sims{L:Nat->Blk}{H:Hp}{ps:List PV}{vs:List Value}(h:SimTs L H ps vs):Sims H ps vs:=⟨h.1,λi p v hp hv=>(h.2 i p v hp hv).sim⟩
def PV.noOsl:PV->Bool
 | .osl _=>false
 |_=>true
theorem Sim.simT{L:Nat->Blk}{H:Hp}{p:PV}{v:Value}(h:Sim H p v)(hp:p.noOsl=true):SimT L H p v:=by
 cases p<;>first|exact h|(simp[PV.noOsl] at hp)
theorem SimT.mono{L:Nat->Blk}{H H':Hp}(hl:HLe H H'){p:PV}{v:Value}(h:SimT L H p v):SimT L H' p v:=by
 cases p<;>first|exact Sim.mono hl h|exact h
def SimB(L:Nat->Blk)(H:Hp):Blk->Option (Nat×Obj)->Prop
 | .no,_=>True
 | .box b T cs,x=>∃ vs,x=some (b,bx T vs)/\SimTs L H cs vs
 | .arr u k e enc xs,x=>∃ cs,OwnV k e u x xs.length cs/\Rl (RowE enc k) H xs cs/\xs.length<=140737488355328
 | .itr b s p,x=>x=some (b,itr s p)
 | .ob b o,x=>x=some (b,o)
theorem SimB.mono{L:Nat->Blk}{H H':Hp}(hl:HLe H H'){B:Blk}{x:Option (Nat×Obj)}(h:SimB L H B x):SimB L H' B x:=by
 cases B with
 |no=>trivial
 |box b T cs=>have⟨vs,h1,h2,h3⟩:=h;exact⟨vs,h1,h2,λi p v hp hv=>(h3 i p v hp hv).mono hl⟩
 |arr u k e enc xs=>have⟨cs,h1,h2,h3⟩:=h;exact⟨cs,h1,h2.mono Rc_ hl,h3⟩
 |itr b s p=>exact h
 |ob b o=>exact h
structure Gb where
 p:Hp->Prop
 mono:∀ H H',HLe H H'->p H->p H'
structure Env where
 h:Hp
 g:Gb
structure Abs(H0:Env)(s:St)(F:Fr)(H:Hp)(L:Ls):Prop where
 le:HLe H0.h H
 g:H0.g.p H
 f:∀ t,SimT s.L H (s.F t) (F t)
 l:∀ i,SimB s.L H (s.L i) (L i)
theorem Abs.mono{H0:Env}{s:St}{F:Fr}{H H':Hp}{L:Ls}(h:Abs H0 s F H L)(hl:HLe H H'):Abs H0 s F H' L:=⟨h.le.trans hl,H0.g.mono _ _ hl h.g,λt=>(h.f t).mono hl,λi=>(h.l i).mono hl⟩
def updp(F:Nat->PV)(d:Nat)(p:PV):Nat->PV:=λt=>bif AR t d then p else F t
def lups(L:Nat->Blk)(i:Nat)(B:Blk):Nat->Blk:=λt=>bif AR t i then B else L t
theorem Np_(F:Nat->PV)(d:Nat)(v:PV):updp F d v d=v:=by simp[updp]
theorem Tp_{F:Nat->PV}{d t:Nat}{v:PV}(h:t≠d):updp F d v t=F t:=by
 have :AR t d=false:=natBeq h;simp[updp,this]
theorem D5_(F:Nat->Blk)(d:Nat)(v:Blk):lups F d v d=v:=by simp[lups]
theorem Hp_{F:Nat->Blk}{d t:Nat}{v:Blk}(h:t≠d):lups F d v t=F t:=by
 have :AR t d=false:=natBeq h;simp[lups,this]
theorem Abs.put{H0:Env}{s:St}{F:Fr}{H:Hp}{L:Ls}(h:Abs H0 s F H L){p:PV}{v:Value}(d:Nat)(hp:SimT s.L H p v):Abs H0 ⟨updp s.F d p,s.L⟩ (upd F d v) H L:=by
 refine⟨h.le,h.g,λt=>?_,h.l⟩;by_cases e:t=d;subst e;simp only[Np_,upd_same];exact hp;simp only[Tp_ e,upd_ne e];exact h.f t
variable{P:Program}{n:Nat}{N:Rest}{F:Fr}{H:Hp}{L:Ls}
inductive TK where
 |int (k:IntKind)
 |str
 |bool
 |agg (fs:List (Nat×Nat))
 |slc (e:TypeId)
 |arr
 |oth
structure TI where
 k:TK
 size:Nat
 bytes:Nat
 zero:List PV
abbrev Tb:=List (TypeId×TI)
def nth{α:Type _}:List α->Nat->Option α
 |[],_=>none
 |a::_,0=>some a
 |_::r,i+1=>nth r i
theorem L4_{α:Type _}:∀ (l:List α) (i:Nat),nth l i=l[i]?
 |[],_=>by simp[nth]
 |a::_,0=>by simp[nth]
 |_::r,i+1=>by simp[nth,L4_ r i]
def lkT:Tb->TypeId->Option TI
 |[],_=>none
 |(a,x)::r,t=>bif AR t a then some x else lkT r t
def zm1:PV->Value->Bool
 | .int k z, .int k' z'=>decide (k=k') && decide (z=z') && decide (k.min<=z) && decide (z<=k.max)
 | .bool b, .bool b'=>b==b'
 | .str [], .string s=>decide (s.data.toList=[])
 | .sl _ [], .slice none 0 0=>true
 | .val (.pointer none), .pointer none=>true
 | .val .nilFunc, .nilFunc=>true
 | .val .nilIface, .nilIface=>true
 | .val (.map none), .map none=>true
 | .val (.slice none 0 0), .slice none 0 0=>true
 |_,_=>false
def zmatch:List PV->List Value->Bool
 |[],[]=>true
 |p::ps,v::vs=>zm1 p v&&zmatch ps vs
 |_,_=>false
def kB(P:Program)(t:TypeId):TK->Bool
 | .int k=>match P.underlying t with|some (.int k')=>decide (k=k')|_=>false
 | .str=>match P.underlying t with|some .string=>true|_=>false
 | .bool=>match P.underlying t with|some .bool=>true|_=>false
 | .slc e=>match P.underlying t with|some (.slice e')=>AR e e'|_=>false
 | .agg fs=>match P.underlying t with|some (.struct fields)=>decide (fields.toList.map (λf=>(f.offset,P.cellsOf f.type))=fs)&&fields.toList.all (λf=>(P.info? f.type).isSome)|_=>false
 | .arr=>match P.underlying t with|some (.array _ _)=>true|_=>false
 | .oth=>match P.underlying t with|some (.struct _)=>false|some (.array _ _)=>false|some _=>true|none=>false
def tiB(P:Program)(t:TypeId)(ti:TI):Bool:=
 (match P.info? t with
 |some i=>AR i.size ti.size&&AR i.bytes ti.bytes&&(match i.zero with|some zv=>zmatch ti.zero zv.cells.toList|none=>false)
 |none=>false)&&kB P t ti.k
def tbB(P:Program)(tb:Tb):Bool:=tb.all λx=>tiB P x.1 x.2
theorem lkT_ok{tb:Tb}(h:tbB P tb=true){t:TypeId}{ti:TI}(hl:lkT tb t=some ti):tiB P t ti=true:=by
 induction tb with
 |nil=>simp[lkT] at hl
 |cons x r ih=>
   have⟨a,y⟩:=x
   simp only[tbB,List.all_cons,A3] at h
   simp only[lkT] at hl
   cases e:AR t a with
   |true=>rw[e] at hl;simp at hl;subst hl;rw[AM e];exact h.1
   |false=>rw[e] at hl;exact ih (by simpa [tbB] using h.2) pZ
theorem zm1_ok{p:PV}{v:Value}(h:zm1 p v=true):Sim H p v:=by
 unfold zm1 at h
 split at h
 simp only[A3,decide_eq_true_eq] at h;obtain⟨⟨⟨rfl,rfl⟩,h1⟩,h2⟩:=h;exact .int h1 h2;have e:=eq_of_beq h;subst e;exact .bool
 . rename_i s
   have e:s=⟨([]:Bs).toArray⟩:=by
     have :=of_decide_eq_true h
     cases s with|mk d=>congr;exact E4 (by simpa using this)
   subst e
   exact .str pC
 exact Sim.of_slh (k:=0) slh_nil pC;exact .val;exact .val;exact .val;exact .val;exact .val
 . cases h
theorem zmatch_ok:∀ {ps:List PV} {vs:List Value},zmatch ps vs=true->Sims H ps vs
 |[],[],_=>Sims.nil
 |p::ps,v::vs,h=>by
   simp only[zmatch,A3] at h
   exact (zmatch_ok h.2).cons (zm1_ok h.1)
 |[],_::_,h=>by simp[zmatch] at h
 |_::_,[],h=>by simp[zmatch] at h
structure TIOk(P:Program)(t:TypeId)(ti:TI):Prop where
 sz:Sz P t ti.size
 by_:By P t ti.bytes
 cells:P.cellsOf t=ti.size
 zero:∃ zv:Value,(∀ w,(zeroValue t).run P w = .ok zv w)/\∀ H,Sims H ti.zero zv.cells.toList
 k:kB P t ti.k=true
theorem Eq_{tb:Tb}(h:tbB P tb=true){t:TypeId}{ti:TI}(hl:lkT tb t=some ti):TIOk P t ti:=by
 have h:=lkT_ok h hl;simp only[tiB,A3] at h;have⟨h1,h2⟩:=h
 split at h1
 . rename_i i hi
   simp only[A3] at h1
   have⟨⟨a1,a2⟩,a3⟩:=h1
   have b1:=AM a1
   have b2:=AM a2
   split at a3
   . rename_i zv hz
     exact⟨λw=>by simp[sizeOf,typeInfo,hi,b1],λw=>⟨i,by simp[typeInfo,hi],b2⟩,by simp[DL,hi,b1],⟨zv,λw=>by simp[zeroValue,typeInfo,hi,hz],λH=>zmatch_ok a3⟩,h2⟩
   . cases a3
 . cases h1
theorem TIOk.int{t:TypeId}{ti:TI}(h:TIOk P t ti){k:IntKind}(e:ti.k = .int k):P.underlying t=some (.int k):=by
 have :=h.k;rw[e] at this;simp only[kB] at this;split at this;grind
 . cases this
theorem TIOk.str{t:TypeId}{ti:TI}(h:TIOk P t ti)(e:ti.k = .str):P.underlying t=some .string:=by
 have :=h.k;rw[e] at this;simp only[kB] at this;split at this;assumption
 . cases this
theorem TIOk.bool{t:TypeId}{ti:TI}(h:TIOk P t ti)(e:ti.k = .bool):P.underlying t=some .bool:=by
 have :=h.k;rw[e] at this;simp only[kB] at this;split at this;assumption
 . cases this
theorem TIOk.slc{t:TypeId}{ti:TI}(h:TIOk P t ti){q:TypeId}(e:ti.k = .slc q):P.underlying t=some (.slice q):=by
 have :=h.k;rw[e] at this;simp only[kB] at this;split at this
 . rename_i hu;rw[hu,AM this]
 . cases this
theorem TIOk.agg{t:TypeId}{ti:TI}(h:TIOk P t ti){fs:List (Nat×Nat)}(e:ti.k = .agg fs):∃ fields,P.underlying t=some (.struct fields)/\fields.toList.map (λf=>(f.offset,P.cellsOf f.type))=fs/\∀ f∈fields.toList,∃ i,P.info? f.type=some i:=by
 have :=h.k;rw[e] at this;simp only[kB] at this;split at this
 . rename_i fields hu
   simp only[A3,decide_eq_true_eq,List.all_eq_true] at this
   exact⟨fields,hu,this.1,λf hf=>Option.isSome_iff_exists.1 (this.2 f hf)⟩
 . cases this
def TK.isAgg:TK->Bool
 | .agg _=>true
 | .arr=>true
 |_=>false
theorem TIOk.ag{t:TypeId}{ti:TI}(h:TIOk P t ti):Ag P t ti.k.isAgg:=λw=>by
 cases e:ti.k with
 |int k=>simp[DB,run_underlying (h.int e),TK.isAgg]
 |str=>simp[DB,run_underlying (h.str e),TK.isAgg]
 |bool=>simp[DB,run_underlying (h.bool e),TK.isAgg]
 |slc q=>simp[DB,run_underlying (h.slc e),TK.isAgg]
 |agg fs=>have⟨fields,hu,_⟩:=h.agg e;simp[DB,run_underlying hu,TK.isAgg]
 |arr=>
   have :=h.k;rw[e] at this;simp only[kB] at this;split at this
   . rename_i hu;simp[DB,run_underlying hu,TK.isAgg]
   . cases this
 |oth=>
   have :=h.k;rw[e] at this;simp only[kB] at this
   simp only[TK.isAgg]
   split at this
   . cases this
   . cases this
   . rename_i d h1 h2 hu
     cases d<;>first|(exact absurd Y (h1 _))|(exact absurd Y (h2 _ _))|simp[DB,run_underlying hu]
   . cases this
def frcB{α:Type _}:Bs->(Bs->α)->α
 |[],c=>c []
 |b::r,c=>frcB r λr=>c (b::r)
theorem frcB_eq{α:Type _}:∀ (l:Bs) (c:Bs->α),frcB l c=c l
 |[],c=>rfl
 |b::r,c=>by simp only[frcB,frcB_eq r]
def cst:Value->PV
 | .int k z=>bif decide (k.min<=z) && decide (z<=k.max) then .int k z else .val (.int k z)
 | .bool b=> .bool b
 | .string s=>bif ET s.data.toList.length 9223372036854775807 then frcB s.data.toList .str else .val (.string s)
 |v=> .val v
theorem cst_ok(v:Value):Sim H (cst v) v:=by
 unfold cst
 split
 . rename_i k z
   cases e:decide (k.min<=z) && decide (z<=k.max) with
   |false=>exact .val
   |true=>simp only[A3,decide_eq_true_eq] at e;exact .int e.1 e.2
 exact .bool
 . rename_i s
   cases e:ET s.data.toList.length 9223372036854775807 with
   |false=>exact .val
   |true=>
     simp only[cond_true,frcB_eq]
     have :=Sim.str (H:=H) (BW e)
     rw[<- str_of] at this
     exact this
 exact .val
theorem cst_noOsl(v:Value):(cst v).noOsl=true:=by
 unfold cst
 split
 . rename_i k z;cases decide (k.min<=z) && decide (z<=k.max)<;>rfl
 rfl
 . rename_i s;cases ET s.data.toList.length 9223372036854775807<;>simp[frcB_eq,PV.noOsl]
 rfl
def evP(F:Nat->PV):Operand->PV
 | .tmp t=>F t
 | .const v=>cst v
 | .global g=> .val (.pointer (some ⟨g,0,none⟩))
 | .func f=> .fn f [] []
def evPs(F:Nat->PV):List Operand->List PV
 |[]=>[]
 |x::r=>evP F x::evPs F r
abbrev Ok1(Ls:Nat->Blk)(H:Hp)(G:Nat->PV)(F:Fr)(x:Operand):Prop:=SimT Ls H (evP G x) (ev F x)
theorem Dn_{Ls:Nat->Blk}{G:Nat->PV}(h:∀ t,SimT Ls H (G t) (F t))(x:Operand):Ok1 Ls H G F x:=by
 cases x with
 |tmp t=>exact h t
 |const v=>exact (cst_ok v).simT (cst_noOsl v)
 |«global» g=>exact Sim.val
 |func f=>exact Sim.toFn Sims.nil Sims.nil
theorem Xf_{Ls:Nat->Blk}{G:Nat->PV}:∀ {xs:List Operand},(∀ x∈xs,Ok1 Ls H G F x)->SimTs Ls H (evPs G xs) (evs F xs)
 |[],_=>⟨rfl,λi p v h=>by simp[evPs] at h⟩
 |x::r,h=>by
   have ih:=Xf_ (xs:=r) λy hy=>h y (AI _ hy)
   refine⟨by simp[evPs,evs,ih.1],λi p v hp hv=>?_⟩
   cases i with
   |zero=>simp[evPs,evs] at hp hv;subst hp;subst hv;exact h x B8
   |succ i=>exact ih.2 i p v (by simpa [evPs] using hp) (by simpa [evs] using hv)
structure PR where
 v:PV
 ps:List Prop
 lk:Option (Nat×Nat×Nat)
def AllP:List Prop->Prop
 |[]=>True
 |p::r=>p/\AllP r
def Yl(P:Program)(N:Rest)(sL:Nat->Blk)(op:Op)(ty:TypeId)(F:Fr)(H:Hp)(L:Ls)(r:PR):Prop:=
 ∃ val,SimT sL H r.v val/\∀ H' L',HLe H H'->(∀ x,r.lk=some x->L' x.1=L x.1)->Lo P N op ty F H' L' val
abbrev PR.q(v:PV):PR:=⟨v,[],none⟩
theorem Ml_(k:IntKind)(z:Int):k.min<=k.wrap z/\k.wrap z<=k.max:=by
 cases k<;>simp[A0,EJ,DH,AO,D1]<;>omega
variable{sL:Nat->Blk}{G:Nat->PV}{ty:TypeId}
theorem y_move{x:Operand}(h:Ok1 sL H G F x):Yl P N sL (.move x) ty F H L (.q (evP G x)):=⟨_,h,λ_ _ _ _=>Lf_ Y⟩
theorem y_assign{x:Operand}(h:Ok1 sL H G F x):Yl P N sL (.assign x) ty F H L (.q (evP G x)):=⟨_,h,λ_ _ _ _=>M8_ Y⟩
def pPick(c a b:PV):Option PR:=
 match a with
 | .gv c1 q=>match c,q,b with
   | .bool p, .bool q', .bool b'=>some ⟨.bool (p&&q'),[c1=p,b'=false],none⟩
   |_,_,_=>none
 |a=>match b with
   | .gv c1 q=>match c,q,a with
     | .bool p, .bool q', .bool a'=>some ⟨.bool (p||q'),[c1=!p,a'=true],none⟩
     |_,_,_=>none
   |b=>match c with
     | .bool p=>match p with
       |true=>some (.q a)
       |false=>some (.q b)
     |_=>none
theorem lo_pick{x y z:Operand}{p:Bool}{v:Value}(hx:ev F x = .bool p)(hv:v = bif p then ev F y else ev F z):Lo P N (.pick x y z) ty F H L v:=λ_ _ _ _ w _=>by
 subst hv;cases p<;>simp[execOp,hx,asBool]
theorem y_pick{x y z:Operand}{r:PR}(hx:Ok1 sL H G F x)(hy:Ok1 sL H G F y)(hz:Ok1 sL H G F z)(h:pPick (evP G x) (evP G y) (evP G z)=some r)(hp:AllP r.ps):Yl P N sL (.pick x y z) ty F H L r:=by
 unfold Ok1 at hx hy hz;generalize evP G x=c at *;generalize evP G y=a at *;generalize evP G z=b at *;unfold pPick at h
 split at h
 . rename_i c1 q
   split at h
   . rename_i p q' b'
     cases h
     have⟨e1,e2,_⟩:=hp
     subst e1;subst e2
     have ex:=Sim.inv_bool (hx.sim)
     have ez:=Sim.inv_bool (hz.sim)
     refine⟨.bool (c1&&q'),Sim.bool,λ_ _ _ _=>lo_pick ex ?_⟩
     rcases Sim.inv_gv hy.sim with ⟨rfl,h1⟩|⟨rfl,h1⟩
     simp[Sim.inv_bool h1]
     simp[ez]
   . cases h
 . split at h
   . rename_i c1 q
     split at h
     . rename_i p q' a' _
       cases h
       have⟨e1,e2,_⟩:=hp
       subst e1;subst e2
       have ex:=Sim.inv_bool (hx.sim)
       have ey:=Sim.inv_bool (hy.sim)
       refine⟨.bool (p||q'),Sim.bool,λ_ _ _ _=>lo_pick ex ?_⟩
       rcases Sim.inv_gv hz.sim with ⟨e,h1⟩|⟨e,h1⟩
       . cases p<;>simp_all [Sim.inv_bool h1]
       grind
     . cases h
   . split at h
     . split at h
       . cases h;exact⟨_,hy,λ_ _ _ _=>lo_pick (Sim.inv_bool hx.sim) Y⟩
       . cases h;exact⟨_,hz,λ_ _ _ _=>lo_pick (Sim.inv_bool hx.sim) Y⟩
     . cases h
def pCmp:BinOp->Int->Int->Option Bool
 | .eql,x,y=>some (decide (x=y))
 | .neq,x,y=>some (!decide (x=y))
 | .lss,x,y=>some (decide (x<y))
 | .leq,x,y=>some (decide (x<=y))
 | .gtr,x,y=>some (decide (y<x))
 | .geq,x,y=>some (decide (y<=x))
 |_,_,_=>none
def pSum:IntKind->Int->Option PR
 | .i64,z=>some ⟨.int .i64 z,[-9223372036854775808<=z/\z<=9223372036854775807],none⟩
 | .i32,z=>some ⟨.int .i32 z,[-2147483648<=z/\z<=2147483647],none⟩
 | .u8,z=>some (.q (.int .u8 (A0 .u8 z)))
 | .u16,z=>some (.q (.int .u16 (A0 .u16 z)))
 | .u32,z=>some (.q (.int .u32 (A0 .u32 z)))
 | .u64,z=>some (.q (.int .u64 (A0 .u64 z)))
 |_,_=>none
def IntKind.uns:IntKind->Bool
 | .u8=>true
 | .u16=>true
 | .u32=>true
 | .u64=>true
 |_=>false
def pInt(op:BinOp)(k:IntKind)(x y:Int):Option PR:=
 match op with
 | .add=>pSum k (x+y)
 | .sub=>pSum k (x-y)
 | .mul=>pSum k (x*y)
 | .quo=>some ⟨.int k (x/y),[0<=x,0<y],none⟩
 | .rem=>some ⟨.int k (x%y),[0<=x,0<y],none⟩
 | .or=>some (.q (.int k (k.wrap ((AC k.bits x |||AC k.bits y).toNat))))
 | .and=>some (.q (.int k (k.wrap ((AC k.bits x &&& AC k.bits y).toNat))))
 | .xor=>some (.q (.int k (k.wrap ((AC k.bits x ^^^ AC k.bits y).toNat))))
 | .andNot=>some (.q (.int k (k.wrap ((AC k.bits x &&& ~~~ AC k.bits y).toNat))))
 |op=>match pCmp op x y with
   |some b=>some (.q (.bool b))
   |none=>none
def kEq(k k':IntKind):Bool:=decide (k=k')
def pBin(tb:Tb)(op:BinOp)(T:TypeId)(a b:PV):Option PR:=
 match a with
 | .int k x=>match b with
   | .int k' y=>match op with
     | .shl=>some ⟨.int k (k.wrap (x*2 ^ (min y.toNat k.bits))),[0<=y],none⟩
     | .shr=>match IntKind.uns k with
       |true=>some ⟨.int k (x.fdiv (2 ^ (min y.toNat k.bits))),[0<=y],none⟩
       |false=>none
     |op=>match kEq k k' with
       |true=>pInt op k x y
       |false=>none
   |_=>none
 | .str s=>match b with
   | .str t=>match op with
     | .add=>some ⟨.str (s++t),[s.length+t.length<=9223372036854775807],none⟩
     | .eql=>some (.q (.bool (decide (s=t))))
     | .neq=>some (.q (.bool (!decide (s=t))))
     | .lss=>some (.q (.bool (Op.bytesLess s t)))
     |_=>none
   |_=>none
 | .bool p=>match b with
   | .bool q=>match lkT tb T with
     |some ti=>match ti.k with
       | .bool=>match op with
         | .eql=>some (.q (.bool (p==q)))
         | .neq=>some (.q (.bool (!(p==q))))
         |_=>none
       |_=>none
     |none=>none
   |_=>none
 |_=>none
theorem y_of{op:Op}{p:PV}{v:Value}(hs:SimT sL H p v)(h:∀ H' L',Lo P N op ty F H' L' v):Yl P N sL op ty F H L (.q p):=⟨v,hs,λH' L' _ _=>h H' L'⟩
theorem y_sum{k:IntKind}{z:Int}{op:Op}{r:PR}(h:pSum k z=some r)(hp:AllP r.ps)(hw:∀ H' L',Lo P N op ty F H' L' (.int k (k.wrap z))):Yl P N sL op ty F H L r:=by
 have hr:=Ml_ k z;unfold pSum at h
 split at h<;>first|cases h|skip
 have e:A0 .i64 z=z:=Rj_ (k:= .i64) hp.1;exact tM;have e:A0 .i32 z=z:=Rj_ (k:= .i32) hp.1;exact tM
 all_goals exact⟨_,Sim.int hr.1 hr.2,λH' L' _ _=>hw H' L'⟩
theorem ediv_in{k:IntKind}{x y:Int}(h0:0<=x)(hm:x<=k.max)(hy:0<y):k.min<=x/y/\x/y<=k.max:=by
 have h1:0<=x/y:=E2 h0 (C9 hy);have h2:x/y<=x:=DV _ h0;have h3:k.min<=0:=by cases k<;>decide
 omega
theorem emod_in{k:IntKind}{x y:Int}(h0:0<=x)(hm:x<=k.max)(hy:0<y):k.min<=x%y/\x%y<=k.max:=by
 have h1:0<=x%y:=Int.emod_nonneg _ qX;have h2:x%y<=x:=by
   have e:=Int.mul_ediv_add_emod x y
   have :=Int.mul_nonneg (C9 hy) (E2 h0 (C9 hy))
   omega
 have h3:k.min<=0:=by cases k<;>decide
 omega
theorem uns_min{k:IntKind}(h:IntKind.uns k=true):k.min=0:=by cases k<;>first|rfl|(simp[IntKind.uns] at h)
theorem fdiv_in{k:IntKind}{x:Int}{m:Nat}(hu:IntKind.uns k=true)(h0:k.min<=x)(hm:x<=k.max):k.min<=x.fdiv (2 ^ m)/\x.fdiv (2 ^ m)<=k.max:=by
 rw[uns_min hu] at *;have hp:(0:Int)<2 ^ m:=Int.pow_pos qZ;rw[Int.fdiv_eq_ediv_of_nonneg _ (C9 hp)];exact⟨Int.ediv_nonneg h0 (C9 hp),GM (DV _ h0) hm⟩
theorem y_bin{tb:Tb}{op:BinOp}{T T':TypeId}{x y:Operand}{r:PR}(ht:tbB P tb=true)(hx:Ok1 sL H G F x)(hy:Ok1 sL H G F y)(h:pBin tb op T (evP G x) (evP G y)=some r)(hp:AllP r.ps):Yl P N sL (.binOp op T x y T') ty F H L r:=by
 unfold Ok1 at hx hy;generalize evP G x=a at *;generalize evP G y=b at *;have hx:=hx.sim;have hy:=hy.sim;unfold pBin at h
 split at h
 . split at h
   . rename_i k z _ k' u
     have⟨ex,x1,x2⟩:=hx.inv_int
     have⟨ey,y1,y2⟩:=hy.inv_int
     split at h
     . cases h;exact⟨_,Sim.int (Ml_ _ _).1 (Ml_ _ _).2,λH' L' _ _=>lo_shl ex ey hp.1⟩
     . split at h
       . rename_i hu;cases h;exact⟨_,Sim.int (fdiv_in hu x1 x2).1 (fdiv_in hu x1 x2).2,λH' L' _ _=>lo_shr ex ey hp.1⟩
       . cases h
     . split at h
       . rename_i hk
         have hk:=of_decide_eq_true hk
         subst hk
         unfold pInt at h
         split at h
         exact y_sum h hp λ_ _=>lo_add_w ex ey
         exact y_sum h hp λ_ _=>lo_sub_w ex ey
         exact y_sum h hp λ_ _=>lo_mul_w ex ey
         . cases h;have⟨h0,h1,_⟩:=hp;exact⟨_,Sim.int (ediv_in h0 x2 h1).1 (ediv_in h0 x2 h1).2,λH' L' _ _=>lo_quo ex ey h0 x2 h1⟩
         . cases h;have⟨h0,h1,_⟩:=hp;exact⟨_,Sim.int (emod_in h0 x2 h1).1 (emod_in h0 x2 h1).2,λH' L' _ _=>lo_rem ex ey h0 h1⟩
         . cases h;exact y_of (Sim.int (Ml_ _ _).1 (Ml_ _ _).2) λ_ _=>lo_or ex ey
         . cases h;exact y_of (Sim.int (Ml_ _ _).1 (Ml_ _ _).2) λ_ _=>lo_and ex ey
         . cases h;exact y_of (Sim.int (Ml_ _ _).1 (Ml_ _ _).2) λ_ _=>lo_xor ex ey
         . cases h;exact y_of (Sim.int (Ml_ _ _).1 (Ml_ _ _).2) λ_ _=>G0_ (v:= .int _ (A0 _ _)) ex ey (λw=>En_ w) λw=>by simp[binOp,DI]
         . split at h
           . rename_i hb
             cases h
             unfold pCmp at hb
             split at hb<;>first|cases hb|skip
             exact y_of Sim.bool λ_ _=>lo_eql ex ey
             exact y_of Sim.bool λ_ _=>lo_neq ex ey
             exact y_of Sim.bool λ_ _=>lo_lss ex ey
             exact y_of Sim.bool λ_ _=>lo_leq ex ey
             exact y_of Sim.bool λ_ _=>lo_gtr ex ey
             exact y_of Sim.bool λ_ _=>lo_geq ex ey
           . cases h
       . cases h
   . cases h
 . split at h
   . have⟨ex,x1⟩:=hx.inv_str
     have⟨ey,y1⟩:=hy.inv_str
     split at h<;>first|cases h|skip
     exact⟨_,Sim.str (by simpa using hp.1),λ_ _ _ _=>lo_cat ex ey hp.1⟩
     exact y_of Sim.bool λ_ _=>lo_seql ex ey
     exact y_of Sim.bool λ_ _=>lo_sneq ex ey
     exact y_of Sim.bool λ_ _=>lo_slss ex ey
   . cases h
 . split at h
   . have ex:=hx.inv_bool
     have ey:=hy.inv_bool
     split at h
     . rename_i ti hti
       split at h
       . rename_i hk
         have hu:=(Eq_ ht hti).bool hk
         split at h<;>first|cases h|skip
         exact y_of Sim.bool λ_ _=>lo_beql ex ey hu
         exact y_of Sim.bool λ_ _=>lo_bneq ex ey hu
       . cases h
     . cases h
   . cases h
 . cases h
end Go.SW
namespace Go.SW
variable{P:Program}{n:Nat}{N:Rest}{F:Fr}{H:Hp}{L:Ls}{sL:Nat->Blk}{G:Nat->PV}{ty:TypeId}
def pUn(op:UnOp)(a:PV):Option PR:=
 match op with
 | .not=>match a with
   | .bool p=>some (.q (.bool (!p)))
   |_=>none
 | .xor=>match a with
   | .int k x=>match IntKind.uns k with
     |true=>some (.q (.int k (k.wrap ((AC k.bits k.max ^^^ AC k.bits x).toNat))))
     |false=>none
   |_=>none
 |_=>none
theorem y_un{op:UnOp}{T:TypeId}{x:Operand}{r:PR}(hx:Ok1 sL H G F x)(h:pUn op (evP G x)=some r):Yl P N sL (.unOp op T x) ty F H L r:=by
 unfold Ok1 at hx;generalize evP G x=a at *
 replace hx:=hx.sim
 unfold pUn at h
 split at h
 . split at h
   . cases h;exact y_of Sim.bool λ_ _=>lo_not hx.inv_bool
   . cases h
 . split at h
   . split at h
     . rename_i hu
       cases h
       have hs:∀ k:IntKind,IntKind.uns k=true->k.signed=false:=λk=>by cases k<;>simp[IntKind.uns,D1]
       exact y_of (Sim.int (Ml_ _ _).1 (Ml_ _ _).2) λ_ _=>lo_com hx.inv_int.1 (hs _ hu)
     . cases h
   . cases h
 . cases h
def fOff(tb:Tb)(T:TypeId)(f:Nat):Option Nat:=
 match lkT tb T with
 |some ti=>match ti.k with
   | .agg fs=>match nth fs f with
     |some (o,z)=>match z with
       |0=>none
       |_+1=>some o
     |none=>none
   |_=>none
 |none=>none
theorem fOff_ok{tb:Tb}(ht:tbB P tb=true){T f o:Nat}(h:fOff tb T f=some o):Fld P T f o:=by
 unfold fOff at h
 split at h
 . rename_i ti hti
   split at h
   . rename_i fs hk
     split at h
     . rename_i o' z hn
       split at h
       . cases h
       . rename_i m
         cases h
         have⟨fields,hu,hm,hi⟩:=(Eq_ ht hti).agg hk
         rw[L4_,<- hm,DJ] at hn
         cases hf:fields.toList[f]? with
         |none=>rw[hf] at hn;cases hn
         |some fd=>
           rw[hf] at hn
           simp only[C1,Option.some.injEq,Prod.mk.injEq] at hn
           have⟨h1,h2⟩:=hn
           have hmem:fd∈fields.toList:=List.mem_of_getElem? hf
           have⟨i,hi⟩:=hi fd hmem
           have hfa:fields[f]? = some fd:=by simpa using hf
           intro b off w
           have hsz:i.size≠0:=by simp[DL,hi] at h2;omega
           simp[G1,run_underlying hu,hfa,E3,fieldPlace,sizeOf,typeInfo,hi,hsz,G8_,h1]
     . cases h
   . cases h
 . cases h
def pFA(tb:Tb)(T:TypeId)(a:PV)(f:Nat):Option PR:=
 match fOff tb T f with
 |some o=>match a with
   | .own i b off=>some (.q (.own i b (off+o)))
   | .el row off=>some (.q (.el row (off+o)))
   |_=>none
 |none=>none
theorem y_fa{tb:Tb}{T f:Nat}{x:Operand}{r:PR}(ht:tbB P tb=true)(hx:Ok1 sL H G F x)(h:pFA tb T (evP G x) f=some r):Yl P N sL (.fieldAddr T x f) ty F H L r:=by
 unfold Ok1 at hx;generalize evP G x=a at *
 replace hx:=hx.sim
 unfold pFA at h
 split at h
 . rename_i o ho
   have hf:=fOff_ok ht ho
   split at h
   . cases h;exact y_of Sim.own λ_ _=>Fo_ hx.inv_own hf
   . cases h
     have⟨u,k,m,cs,e,h1,h2,h3⟩:=hx.inv_el
     refine y_of (Sim.el h1 h3 h2.2) λH' L'=>?_
     have :=Fo_ (P:=P) (N:=N) (H:=H') (L:=L') (ty:=ty) e hf
     grind
   . cases h
 . cases h
def pCut(ti:TI)(cs:List PV)(off:Nat):Option PV:=
 match ti.k.isAgg with
 |true=>match ET (off+ti.size) cs.length with
   |true=>some (.agg ((cs.drop off).take ti.size))
   |false=>none
 |false=>nth cs off
def untie(sL:Nat->Blk):PV->PV
 | .osl i=>match sL i with
   | .arr u _ _ _ _=> .usl u
   |_=> .osl i
 |p=>p
def untieA(sL:Nat->Blk):PV->PV
 | .agg ps=> .agg (ps.map (untie sL))
 |p=>p
theorem ownV_cell1{k:Nat}{e:TypeId}{v:Value}{en:Option (Nat×Obj)}{len:Nat}{cs:List Value}(h:OwnV k e v en len cs):v.oneCell'=true:=by
 rcases h.2 with ⟨rfl,_⟩|⟨b,cap,c,f,rfl,_⟩<;>rfl
theorem untie_ok{sL:Nat->Blk}{H:Hp}{L:Ls}{p:PV}{v:Value}(hL:∀ i,SimB sL H (sL i) (L i))(h:SimT sL H p v):Sim H (untie sL p) v:=by
 cases p with
 |osl i=>
   simp only[untie]
   simp only[SimT] at h
   have hi:=hL i
   generalize sL i=B at h hi
   cases B with
   |arr u k e enc xs=>
     simp only at h
     subst h
     have⟨cs,ho,_⟩:=hi
     exact .usl (ownV_cell1 ho)
   |_=>exact .osl
 |_=>exact h
theorem untie_cs{sL:Nat->Blk}{H:Hp}{L:Ls}{cs:List PV}{vs:List Value}(hL:∀ i,SimB sL H (sL i) (L i))(h:SimTs sL H cs vs):Sims H (cs.map (untie sL)) vs:=by
 refine⟨by simp[h.1],λi p v hp hv=>?_⟩;rw[DJ] at hp
 cases q:cs[i]? with
 |none=>rw[q] at hp;cases hp
 |some p0=>rw[q] at hp;cases hp;exact untie_ok hL (h.2 i p0 v q hv)
def pLoad(tb:Tb)(sL:Nat->Blk)(T:TypeId)(a:PV):Option PR:=
 match lkT tb T with
 |some ti=>match a with
   | .own i b off=>match sL i with
     | .box b' _ cs=>match pCut ti cs off with
       |some p=>match ti.k.isAgg with
         |true=>some ⟨untieA sL p,[],some (i,b',b)⟩
         |false=>some ⟨p,[],some (i,b',b)⟩
       |none=>none
     |_=>none
   | .el row off=>match pCut ti row off with
     |some p=>match p.noOsl with
       |true=>some (.q p)
       |false=>none
     |none=>none
   |_=>none
 |none=>none
theorem SimTs.get{ps:List PV}{vs:List Value}(h:SimTs sL H ps vs){i:Nat}{p:PV}(hp:ps[i]? = some p):∃ v,vs[i]? = some v/\SimT sL H p v:=by
 have hi:i<vs.length:=by
   rw[h.1]
   grind
 exact⟨vs[i],AA hi,h.2 i p _ hp (AA hi)⟩
theorem y_load{tb:Tb}{T:TypeId}{x:Operand}{r:PR}(ht:tbB P tb=true)(hL:∀ i,SimB sL H (sL i) (L i))(hx:Ok1 sL H G F x)(h:pLoad tb sL T (evP G x)=some r)(hp:∀ x,r.lk=some x->x.2.1=x.2.2):Yl P N sL (.load T x) ty F H L r:=by
 unfold Ok1 at hx;generalize evP G x=a at *
 replace hx:=hx.sim
 unfold pLoad at h
 split at h
 . rename_i ti hti
   have hok:=Eq_ ht hti
   have hag:=hok.ag
   split at h
   . rename_i i b off
     split at h
     . rename_i b' T0 cs hb
       split at h
       . rename_i p hc
         have hbi:=hL i
         rw[hb] at hbi
         have⟨vs,hLi,hs⟩:=hbi
         replace hx:=hx.inv_own
         unfold pCut at hc
         split at h
         . rename_i hA
           cases h
           have e:=hp _ Y
           simp only at e
           subst e
           rw[hA] at hag
           simp only[hA] at hc
           split at hc
           . rename_i hl
             cases hc
             refine⟨.agg ((vs.drop off).take ti.size).toArray,Sim.toAgg (by have :=((untie_cs hL hs).drop off).take ti.size;rw[<- List.map_drop,<- List.map_take] at this;exact this),λH' L' _ hl'=>?_⟩
             have hlen:=BW hl
             exact Ww_ (vs:=(vs.drop off).take ti.size) hx hag hok.sz ((hl' (i,_,_) Y).trans hLi) Y (by simp[hs.1];omega)
           . cases hc
         . rename_i hA
           cases h
           have e:=hp _ Y
           simp only at e
           subst e
           rw[hA] at hag
           simp only[hA] at hc
           rw[L4_] at hc
           have⟨v,hv,hsv⟩:=hs.get hc
           exact⟨v,hsv,λH' L' _ hl'=>Mo_ hx hag ((hl' (i,_,_) Y).trans hLi) hv⟩
       . cases h
     . cases h
   . rename_i row off
     split at h
     . rename_i p hc
       split at h
       case h_2=>cases h
       rename_i hno
       cases h
       have⟨u,k,m,cs,e,h1,h2,h3⟩:=hx.inv_el
       unfold pCut at hc
       split at hc
       . rename_i hA
         rw[hA] at hag
         split at hc
         . rename_i hl
           cases hc
           have hlen:=BW hl
           refine⟨.agg ((cs.drop off).take ti.size).toArray,Sim.toAgg ((h2.drop off).take ti.size),λH' L' hh _=>?_⟩
           exact lo_loadEfA (k2:=ti.size) (o:=off) (off:=off) (vs:=(cs.drop off).take ti.size) e hag hok.sz (h1.mono hh) Y (by simp[h2.1];omega)
         . cases hc
       . rename_i hA
         rw[hA] at hag
         rw[L4_] at hc
         have⟨v,hv,hsv⟩:=h2.get hc
         exact⟨v,hsv.simT hno,λH' L' hh _=>lo_loadEf e hag (h1.mono hh) Y hv⟩
     . cases h
   . cases h
 . cases h
def kWide:IntKind->IntKind->Bool
 | .u8, .i8=>false
 | .u8,_=>true
 | .u16, .u16=>true
 | .u16, .u32=>true
 | .u16, .u64=>true
 | .u16, .i32=>true
 | .u16, .i64=>true
 | .u32, .u32=>true
 | .u32, .u64=>true
 | .u32, .i64=>true
 | .u64, .u64=>true
 | .i8, .i8=>true
 | .i8, .i16=>true
 | .i8, .i32=>true
 | .i8, .i64=>true
 | .i16, .i16=>true
 | .i16, .i32=>true
 | .i16, .i64=>true
 | .i32, .i32=>true
 | .i32, .i64=>true
 | .i64, .i64=>true
 |_,_=>false
theorem kWide_ok{k k':IntKind}(h:kWide k k'=true):k'.min<=k.min/\k.max<=k'.max:=by
 cases k<;>cases k'<;>first|(simp[kWide] at h;done)|decide
def pConv(tb:Tb)(T T':TypeId)(a:PV):Option PR:=
 match lkT tb T with
 |some ts=>match lkT tb T' with
   |some td=>match a with
     | .int k x=>match td.k with
       | .int k'=>match kWide k k' with
         |true=>some (.q (.int k' x))
         |false=>some (.q (.int k' (k'.wrap x)))
       |_=>none
     | .str s=>match ts.k with
       | .str=>match td.k with
         | .str=>some (.q (.str s))
         |_=>none
       |_=>none
     |_=>none
   |none=>none
 |none=>none
theorem TIOk.isSome{t:TypeId}{ti:TI}(h:TIOk P t ti):(P.underlying t).isSome=true:=by
 cases e:ti.k with
 |int k=>rw[h.int e];rfl
 |str=>rw[h.str e];rfl
 |bool=>rw[h.bool e];rfl
 |slc q=>rw[h.slc e];rfl
 |agg fs=>have⟨fields,hu,_⟩:=h.agg e;rw[hu];rfl
 |arr=>
   have :=h.k;rw[e] at this;simp only[kB] at this
   grind
 |oth=>
   have :=h.k;rw[e] at this;simp only[kB] at this
   grind
theorem y_conv{tb:Tb}{T T':TypeId}{x:Operand}{r:PR}(ht:tbB P tb=true)(hx:Ok1 sL H G F x)(h:pConv tb T T' (evP G x)=some r):Yl P N sL (.convert T T' x) ty F H L r:=by
 unfold Ok1 at hx;generalize evP G x=a at *
 replace hx:=hx.sim
 unfold pConv at h
 split at h
 . rename_i ts hts
   split at h
   . rename_i td htd
     have hs:=Eq_ ht hts
     have hd:=Eq_ ht htd
     split at h
     . have⟨ex,x1,x2⟩:=hx.inv_int
       split at h
       . rename_i k' hk
         split at h
         . rename_i hw
           cases h
           have hin:=kWide_ok hw
           have hr:k'.min<=_/\_<=k'.max:=⟨Int.le_trans hin.1 x1,GM x2 hin.2⟩
           exact y_of (Sim.int hr.1 hr.2) λ_ _=>lo_conv_in ex hs.isSome (hd.int hk) hr
         . cases h
           exact y_of (Sim.int (Ml_ _ _).1 (Ml_ _ _).2) λ_ _=>lo_conv ex hs.isSome (hd.int hk)
       . cases h
     . have⟨ex,x1⟩:=hx.inv_str
       split at h
       . rename_i hk
         split at h
         . rename_i hk'
           cases h
           exact y_of (Sim.str x1) λ_ _=>lo_conv_str ex (hs.str hk) (hd.str hk')
         . cases h
       . cases h
     . cases h
   . cases h
 . cases h
def pExt(a:PV)(i:Nat):Option PR:=
 match a with
 | .tup vs=>match nth vs i with
   |some p=>match p.noOsl with
     |true=>some (.q p)
     |false=>none
   |none=>none
 |_=>none
theorem y_ext{x:Operand}{i:Nat}{r:PR}(hx:Ok1 sL H G F x)(h:pExt (evP G x) i=some r):Yl P N sL (.extract x i) ty F H L r:=by
 unfold Ok1 at hx;generalize evP G x=a at *
 replace hx:=hx.sim
 unfold pExt at h
 split at h
 . split at h
   . rename_i p hn
     split at h
     . rename_i ho
       cases h
       rw[L4_] at hn
       have⟨vs,e,hs⟩:=hx.inv_tup
       have⟨v,hv,hsv⟩:=hs.get hn
       exact y_of (hsv.simT ho) λ_ _=>lo_extract e (by simpa using hv)
     . cases h
   . cases h
 . cases h
def pNil(a:PV):Option PR:=
 match a with
 | .own i b off=>some (.q (.own i b off))
 | .el row o=>some (.q (.el row o))
 | .fn f [] cap=>some (.q (.fn f [] cap))
 | .val (.pointer (some a))=>some (.q (.val (.pointer (some a))))
 |_=>none
theorem y_nil{x:Operand}{r:PR}(hx:Ok1 sL H G F x)(h:pNil (evP G x)=some r):Yl P N sL (.nilCheck x) ty F H L r:=by
 unfold Ok1 at hx;generalize evP G x=a at *
 replace hx:=hx.sim
 unfold pNil at h
 split at h
 . cases h;exact y_of Sim.own λ_ _=>Ho_ hx.inv_own
 . cases h
   have⟨u,k,m,cs,e,h1,h2,h3⟩:=hx.inv_el
   exact y_of (Sim.el h1 h3 h2.2) λ_ _=>Ho_ e
 . cases h
   have⟨vs,us,e,h1,h2⟩:=hx.inv_fn
   cases h1.inv_nil
   exact y_of (Sim.toFn Sims.nil h2) λ_ _=>lo_nilCheckF e
 . cases h;exact y_of Sim.val λ_ _=>Ho_ hx.inv_val
 . cases h
theorem Xg_{G:Nat->PV}{xs:List Operand}(h:∀ x∈xs,Ok1 sL H G F x):Sims H (evPs G xs) (evs F xs):=(Xf_ h).sims
theorem y_mkf{f:FuncId}{xs ys:Array Operand}(hx:∀ x∈xs.toList,Ok1 sL H G F x)(hy:∀ x∈ys.toList,Ok1 sL H G F x):Yl P N sL (.makeFunc (.func f) xs ys) ty F H L (.q (.fn f (evPs G xs.toList) (evPs G ys.toList))):=by
 exact⟨_,Sim.toFn (Xg_ hx) (Xg_ hy),λH' L' _ _=>by simpa using lo_makeFuncB (P:=P) (N:=N) (F:=F) (H:=H') (L:=L') (ty:=ty) (f:=f) (xs:=xs.toList) (ys:=ys.toList) Y Y⟩
def pLen(tb:Tb)(sL:Nat->Blk)(T:TypeId)(a:PV):Option PR:=
 match lkT tb T with
 |some ti=>match a with
   | .str s=>match ti.k with
     | .str=>some (.q (.int .i64 s.length))
     |_=>none
   | .sl _ xs=>match ti.k with
     | .slc _=>some (.q (.int .i64 xs.length))
     |_=>none
   | .osl i=>match ti.k with
     | .slc _=>match sL i with
       | .arr _ _ _ _ xs=>some (.q (.int .i64 xs.length))
       |_=>none
     |_=>none
   |_=>none
 |none=>none
theorem Vi_{m:Nat}(h:m<=9223372036854775807):IntKind.min .i64<=(m:Int)/\(m:Int)<=IntKind.max .i64:=by
 have e1:EJ .i64 = -9223372036854775808:=rfl;have e2:DH .i64=9223372036854775807:=rfl;omega
theorem y_len{tb:Tb}{T:TypeId}{x:Operand}{r:PR}(ht:tbB P tb=true)(hL:∀ i,SimB sL H (sL i) (L i))(hx:Ok1 sL H G F x)(h:pLen tb sL T (evP G x)=some r):Yl P N sL (.call ⟨.builtin .len,#[x],#[T]⟩) ty F H L r:=by
 unfold Ok1 at hx;generalize evP G x=a at *;unfold pLen at h
 split at h
 . rename_i ti hti
   have hk:=Eq_ ht hti
   split at h
   . split at h
     . rename_i e
       cases h
       have⟨ex,x1⟩:=hx.sim.inv_str
       exact y_of (Sim.int (Vi_ x1).1 (Vi_ x1).2) λ_ _=>lo_len_str ex (hk.str e)
     . cases h
   . split at h
     . rename_i e
       cases h
       have⟨k,hs,hb⟩:=hx.sim.slh
       have hb':_<=9223372036854775807:=AK hb qZ
       exact⟨_,Sim.int (Vi_ hb').1 (Vi_ hb').2,λH' L' hh _=>lo_len_slh Y (hs.mono hh λ_ _ q=>Rc_ _ _ _ _ hh q) (hk.slc e)⟩
     . cases h
   . rename_i i
     split at h
     . rename_i e
       split at h
       . rename_i hb
         cases h
         have hbi:=hL i
         simp only[SimT,hb] at hx
         rw[hb] at hbi
         have⟨cs,ho,hr,hm⟩:=hbi
         have hm':_<=9223372036854775807:=AK hm qZ
         exact y_of (Sim.int (Vi_ hm').1 (Vi_ hm').2) λ_ _=>lo_len_own hx ho (hk.slc e)
       . cases h
     . cases h
   . cases h
 . cases h
def pMM(mx:Bool)(a b:PV):Option PR:=
 match a with
 | .int k x=>match b with
   | .int k' y=>match kEq k k' with
     |true=>some (.q (.int k (match mx with|true=>max x y|false=>min x y)))
     |false=>none
   |_=>none
 |_=>none
theorem max_sim{k:IntKind}{x y:Int}(x1:k.min<=x)(x2:x<=k.max)(y1:k.min<=y)(y2:y<=k.max):Sim H (.int k (max x y)) (.int k (max x y)):= .int qX qX
theorem min_sim{k:IntKind}{x y:Int}(x1:k.min<=x)(x2:x<=k.max)(y1:k.min<=y)(y2:y<=k.max):Sim H (.int k (min x y)) (.int k (min x y)):= .int qX qX
theorem y_max{x y:Operand}{ats:Array TypeId}{r:PR}(hx:Ok1 sL H G F x)(hy:Ok1 sL H G F y)(h:pMM true (evP G x) (evP G y)=some r):Yl P N sL (.call ⟨.builtin .max,#[x,y],ats⟩) ty F H L r:=by
 unfold Ok1 at hx hy;generalize evP G x=a at *;generalize evP G y=b at *;unfold pMM at h
 split at h
 . split at h
   . split at h
     . rename_i hk
       have hk:=of_decide_eq_true hk
       subst hk
       cases h
       have⟨ex,x1,x2⟩:=hx.sim.inv_int
       have⟨ey,y1,y2⟩:=hy.sim.inv_int
       exact y_of (max_sim x1 x2 y1 y2) λ_ _=>lo_max ex ey
     . cases h
   . cases h
 . cases h
theorem y_min{x y:Operand}{ats:Array TypeId}{r:PR}(hx:Ok1 sL H G F x)(hy:Ok1 sL H G F y)(h:pMM false (evP G x) (evP G y)=some r):Yl P N sL (.call ⟨.builtin .min,#[x,y],ats⟩) ty F H L r:=by
 unfold Ok1 at hx hy;generalize evP G x=a at *;generalize evP G y=b at *;unfold pMM at h
 split at h
 . split at h
   . split at h
     . rename_i hk
       have hk:=of_decide_eq_true hk
       subst hk
       cases h
       have⟨ex,x1,x2⟩:=hx.sim.inv_int
       have⟨ey,y1,y2⟩:=hy.sim.inv_int
       exact y_of (min_sim x1 x2 y1 y2) λ_ _=>lo_min ex ey
     . cases h
   . cases h
 . cases h
def PV.cellsOf(p:PV):Option (List PV):=
 match p with
 | .agg cs=>some cs
 |p=>match p.one with
   |true=>some [p]
   |false=>none
theorem Z8_{p:PV}{v:Value}{cs:List PV}(h:Sim H p v)(hc:p.cellsOf=some cs):Sims H cs v.cells.toList:=by
 unfold PV.cellsOf at hc
 split at hc
 . cases hc
   have⟨vs,e,hs⟩:=h.inv_agg
   subst e
   simpa [ES] using hs
 . split at hc
   . rename_i ho
     cases hc
     have h1:=h.one ho
     have :v.cells = #[v]:=by cases v<;>first|rfl|(simp[Value.oneCell'] at h1)
     rw[this]
     exact Sims.nil.cons h
   . cases hc
def fillP(fs:List (Nat×Nat)):List PV->List (Nat×PV)->Option (List PV)
 |cs,[]=>some cs
 |cs,(i,p)::r=>match nth fs i with
   |some (o,z)=>match p.cellsOf with
     |some c=>match AR c.length z with
       |true=>match ET (o+z) cs.length with
         |true=>fillP fs (cs.take o++(c++cs.drop (o+z))) r
         |false=>none
       |false=>none
     |none=>none
   |none=>none
def evPp(sL:Nat->Blk)(G:Nat->PV):List (Nat×Operand)->List (Nat×PV)
 |[]=>[]
 |x::r=>(x.1,untie sL (evP G x.2))::evPp sL G r
def pBuild(tb:Tb)(T:TypeId)(ps:List (Nat×PV)):Option PR:=
 match lkT tb T with
 |some ti=>match ti.k with
   | .agg fs=>match fillP fs ti.zero ps with
     |some cs=>some (.q (.agg cs))
     |none=>none
   |_=>none
 |none=>none
theorem fillP_ok(fs:List (Nat×Nat))(hL:∀ i,SimB sL H (sL i) (L i))(hG:∀ t,SimT sL H (G t) (F t)):∀ (ps:List (Nat×Operand)) (cs:List PV) (c:Array Value) (cs':List PV),Sims H cs c.toList->fillP fs cs (evPp sL G ps)=some cs'->∃ c':Array Value,Instr.fill (λi=>fs[i]?) c (evp F ps)=some c'/\Sims H cs' c'.toList
 |[],cs,c,cs',hs,h=>by simp only[evPp,fillP] at h;cases h;exact⟨c,rfl,hs⟩
 |x::r,cs,c,cs',hs,h=>by
   simp only[evPp,fillP] at h
   split at h
   . rename_i o z hn
     rw[L4_] at hn
     split at h
     . rename_i d hd
       split at h
       . rename_i hz
         have hz:=AM hz
         split at h
         . rename_i hl
           have hl:=BW hl
           have hv:=Z8_ (untie_ok hL (Dn_ hG x.2)) hd
           have e1:(ev F x.2).cells.size=z:=by rw[<- hz,<- hv.1];simp
           have e2:c.size=cs.length:=by rw[<- hs.1];simp
           have hfo:=fill_one [] (ev F x.2).cells.toList 0 o c pL
           have⟨c',h1,h2⟩:=fillP_ok fs hL hG r _ ((ev F x.2).cells.zipIdx.foldl (λcs (c,j)=>cs.setIfInBounds (o+j) c) c) cs' (by
             have :((ev F x.2).cells.zipIdx.foldl (λcs (c,j)=>cs.setIfInBounds (o+j) c) c).toList=c.toList.take o++((ev F x.2).cells.toList++c.toList.drop (o+z)):=by
               rw[<- F7,F2]
               grind
             rw[this]
             exact (hs.take o).append (hv.append (hs.drop _))) h
           refine⟨c',?_,h2⟩
           simp only[evp,F8,hn]
           grind
         . cases h
       . cases h
     . cases h
   . cases h
theorem run_size{t:TypeId}{i:TypeInfo}(w:World)(h:P.info? t=some i):(sizeOf t).run P w = .ok (P.cellsOf t) w:=by simp[sizeOf,typeInfo,h,DL]
theorem run_places(w:World):∀ (l:List Field),(∀ f∈l,∃ i,P.info? f.type=some i)->(l.mapM (λf=>Prod.mk f.offset <$> sizeOf f.type:Field->Sem (Nat×Nat))).run P w = .ok (l.map (λf=>(f.offset,P.cellsOf f.type))) w
 |[],_=>by simp
 |f::r,h=>by
   have⟨i,hi⟩:=h f B8
   have ih:=run_places w r λg hg=>h g (AI _ hg)
   simp[List.mapM_cons,run_size w hi,ih]
theorem y_build{tb:Tb}{T:TypeId}{ps:Array (Nat×Operand)}{r:PR}(ht:tbB P tb=true)(hL:∀ i,SimB sL H (sL i) (L i))(hG:∀ t,SimT sL H (G t) (F t))(h:pBuild tb T (evPp sL G ps.toList)=some r):Yl P N sL (.build T ps) ty F H L r:=by
 unfold pBuild at h
 split at h
 . rename_i ti hti
   have hok:=Eq_ ht hti
   split at h
   . rename_i fs hk
     split at h
     . rename_i cs hf
       cases h
       have⟨fields,hu,hm,hi⟩:=hok.agg hk
       have⟨zv,hz,hzs⟩:=hok.zero
       have⟨c',h1,h2⟩:=fillP_ok fs hL hG ps.toList ti.zero zv.cells cs (hzs H) hf
       have hb:∀ w,(GF T (evp F ps.toList).toArray).run P w = .ok (.agg c') w:=λw=>by
         have hp:=run_places (P:=P) w fields.toList hi
         have e:(fields.mapM (λf=>do pure (f.offset,<- sizeOf f.type):Field->Sem (Nat×Nat))).run P w = .ok fs.toArray w:=by
           rw[Array.mapM_eq_mapM_toList]
           simp[hp,hm]
         have e2:(λi:Nat=>fs.toArray[i]?) = λi:Nat=>fs[i]? :=by funext i;simp
         simp only[GF,C8,hz w,DF,run_underlying hu,e,e2,h1]
         simp
       have :=λH' L'=>lo_build (P:=P) (N:=N) (F:=F) (H:=H') (L:=L') (ty:=ty) (T:=T) (ps:=ps.toList) (v:= .agg c') Y hb
       refine⟨.agg c',Sim.toAgg (vs:=c'.toList) h2,λH' L' _ _=>by simpa using this H' L'⟩
     . cases h
   . cases h
 . cases h
def pop(tb:Tb)(sL:Nat->Blk)(G:Nat->PV)(op:Op):Option PR:=
 match op with
 | .move x=>some (.q (evP G x))
 | .assign x=>some (.q (evP G x))
 | .pick c a b=>pPick (evP G c) (evP G a) (evP G b)
 | .binOp o T x y _=>pBin tb o T (evP G x) (evP G y)
 | .unOp o _ x=>pUn o (evP G x)
 | .fieldAddr T x f=>pFA tb T (evP G x) f
 | .load T x=>pLoad tb sL T (evP G x)
 | .extract x i=>pExt (evP G x) i
 | .nilCheck x=>pNil (evP G x)
 | .convert T T' x=>pConv tb T T' (evP G x)
 | .makeFunc fn xs ys=>match fn with
   | .func f=>some (.q (.fn f (evPs G xs.toList) (evPs G ys.toList)))
   |_=>none
 | .build T ps=>pBuild tb T (evPp sL G ps.toList)
 | .call ⟨.builtin b,args,ats⟩=>match b with
   | .len=>match args.toList with
     |[x]=>match ats.toList with
       |[T]=>pLen tb sL T (evP G x)
       |_=>none
     |_=>none
   | .max=>match args.toList with
     |[x,y]=>pMM true (evP G x) (evP G y)
     |_=>none
   | .min=>match args.toList with
     |[x,y]=>pMM false (evP G x) (evP G y)
     |_=>none
   |_=>none
 |_=>none
theorem arr1{α:Type _}{a:Array α}{x:α}(h:a.toList=[x]):a = #[x]:=E4 pT
theorem arr2{α:Type _}{a:Array α}{x y:α}(h:a.toList=[x,y]):a = #[x,y]:=E4 pT
theorem pop_ok{tb:Tb}{sL:Nat->Blk}{G:Nat->PV}{F:Fr}{H:Hp}{L:Ls}{op:Op}{ty:TypeId}{r:PR}(ht:tbB P tb=true)(hG:∀ t,SimT sL H (G t) (F t))(hL:∀ i,SimB sL H (sL i) (L i))(h:pop tb sL G op=some r)(hp:AllP r.ps)(he:∀ x,r.lk=some x->x.2.1=x.2.2):Yl P N sL op ty F H L r:=by
 have ok:∀ x,Ok1 sL H G F x:=λx=>Dn_ hG x;unfold pop at h
 split at h
 . cases h;exact y_move (ok _)
 . cases h;exact y_assign (ok _)
 exact y_pick (ok _) (ok _) (ok _) h hp;exact y_bin ht (ok _) (ok _) h hp;exact y_un (ok _) h;exact y_fa ht (ok _) h;exact y_load ht hL (ok _) h he;exact y_ext (ok _) h;exact y_nil (ok _) h;exact y_conv ht (ok _) h
 . split at h
   . cases h;exact y_mkf (λx _=>ok x) (λx _=>ok x)
   . cases h
 exact y_build ht hL hG h
 . split at h
   . split at h
     . rename_i e
       split at h
       . rename_i e'
         rw[arr1 e,arr1 e']
         exact y_len ht hL (ok _) h
       . cases h
     . cases h
   . split at h
     . rename_i e
       rw[arr2 e]
       exact y_max (ok _) (ok _) h
     . cases h
   . split at h
     . rename_i e
       rw[arr2 e]
       exact y_min (ok _) (ok _) h
     . cases h
   . cases h
 . cases h
def P5_:List Operand->List Nat
 |[]=>[]
 | .tmp t::r=>t::P5_ r
 |_::r=>P5_ r
def tsOf(op:Op):List Nat:=
 match op with
 | .pick c _ _=>P5_ [c]
 |op=>P5_ op.operands.toList
def strip:PV->PV
 | .gv _ v=>v
 |p=>p
def strG(ts:List Nat)(G:Nat->PV):Nat->PV:=λt=>bif memB ts t then strip (G t) else G t
def Vc_(G:Nat->PV)(g:Bool):List Nat->List Prop->List Prop
 |[],k=>k
 |t::r,k=>match G t with
   | .gv c _=>(g=true->c=true)::Vc_ G g r k
   |_=>Vc_ G g r k
def guardP(g:Bool):List Prop->List Prop
 |[]=>[]
 |p::r=>(g=true->p)::guardP g r
def pG1(tb:Tb)(sL:Nat->Blk)(G:Nat->PV)(op:Op)(g:Bool):Option PR:=
 match pop tb sL (strG (tsOf op) G) op with
 |some ⟨v,ps,lk⟩=>match v.noOsl with
   |true=>some ⟨.gv g v,Vc_ G g (tsOf op) (guardP g ps),lk⟩
   |false=>none
 |none=>none
def gOf(b want:Bool):Bool:=match want with
 |true=>b
 |false=>!b
def gC(p:PV)(want:Bool):Option Bool:=
 match p with
 | .bool b=>some (gOf b want)
 | .gv c q=>match q with
   | .bool b=>some (c&&gOf b want)
   |_=>none
 |_=>none
def StLe(s s':St):Prop:=∀ H0 F H L,Abs H0 s F H L->Abs H0 s' F H L
theorem StLe.trans{a b c:St}(h:StLe a b)(k:StLe b c):StLe a c:=λH0 F H L x=>k H0 F H L (h H0 F H L x)
abbrev Qs:=Exit->St->Prop
def ql(H0:Env)(Q:Qs):Qt:=λe F H L=>∃ s,Abs H0 s F H L/\Q e s
def Sw(P:Program)(n:Nat)(N:Rest)(H0:Env)(c:Code)(Q:Qs)(s:St):Prop:=∀ F H L,Abs H0 s F H L->Cw P n N c (ql H0 Q) F H L
def So(P:Program)(n:Nat)(N:Rest)(H0:Env)(all rest:List Oper)(Q:Qs)(s:St):Prop:=∀ F H L,Abs H0 s F H L->Ow P n N all rest (ql H0 Q) F H L
variable{H0:Env}
theorem Sw.le{c:Code}{Q:Qs}{s s':St}(h:StLe s s')(k:Sw P n N H0 c Q s'):Sw P n N H0 c Q s:=λF H L x=>k F H L (h _ _ _ _ x)
theorem So.le{all rest:List Oper}{Q:Qs}{s s':St}(h:StLe s s')(k:So P n N H0 all rest Q s'):So P n N H0 all rest Q s:=λF H L x=>k F H L (h _ _ _ _ x)
inductive Kt where
 |seq (y:Code)
 |blk (id:Nat)
 |sc
 |lp (J:St->Prop)
def Kt.den(P:Program)(n:Nat)(N:Rest)(H0:Env):List Kt->Qs->Qs
 |[],Q=>Q
 | .seq y::r,Q=>λe s=>match e with
   | .normal=>Sw P n N H0 y (Kt.den P n N H0 r Q) s
   |e=>Kt.den P n N H0 r Q e s
 | .blk id::r,Q=>λe s=>match e with
   | .exit i=>bif AR i id then Kt.den P n N H0 r Q .normal s else Kt.den P n N H0 r Q (.exit i) s
   |e=>Kt.den P n N H0 r Q e s
 | .sc::r,Q=>λe s=>match e with
   | .goto _=>False
   |e=>Kt.den P n N H0 r Q e s
 | .lp J::r,Q=>λe s=>match e with
   | .normal=>J s
   |e=>Kt.den P n N H0 r Q e s
theorem sw_seq{x y:Code}{ks:List Kt}{Q:Qs}{s:St}(h:Sw P n N H0 x (Kt.den P n N H0 (.seq y::ks) Q) s):Sw P n N H0 (.seq x y) (Kt.den P n N H0 ks Q) s:=by
 intro F H L ha;refine K8_ (Lb_ ?_ (h F H L ha));intro e F' H' L' hq;have⟨s',ha',hq'⟩:=hq
 cases e with
 |normal=>exact hq' F' H' L' ha'
 |_=>exact⟨s',ha',hq'⟩
theorem sw_block{id:Nat}{c:Code}{ks:List Kt}{Q:Qs}{s:St}(h:Sw P n N H0 c (Kt.den P n N H0 (.blk id::ks) Q) s):Sw P n N H0 (.block id c) (Kt.den P n N H0 ks Q) s:=by
 intro F H L ha;refine cw_block (Lb_ ?_ (h F H L ha));intro e F' H' L' hq;have⟨s',ha',hq'⟩:=hq
 cases e with
 |«exit» i=>
   simp only[Kt.den] at hq'
   simp only[blkK]
   cases e:AR i id with
   |true=>rw[e] at hq';exact⟨s',ha',hq'⟩
   |false=>rw[e] at hq';exact⟨s',ha',hq'⟩
 |_=>exact⟨s',ha',hq'⟩
theorem sw_scope{c:Code}{ks:List Kt}{Q:Qs}{s:St}(h:Sw P n N H0 c (Kt.den P n N H0 (.sc::ks) Q) s):Sw P n N H0 (.scope c) (Kt.den P n N H0 ks Q) s:=by
 intro F H L ha;refine cw_scope (Lb_ ?_ (h F H L ha));intro e F' H' L' hq;have⟨s',ha',hq'⟩:=hq
 cases e with
 |goto l=>exact hq'.elim
 |_=>exact⟨s',ha',hq'⟩
theorem sw_skip{Q:Qs}{s:St}(h:Q .normal s):Sw P n N H0 .skip Q s:=λF H L ha=>cw_skip ⟨s,ha,h⟩
theorem sw_label{l:Nat}{Q:Qs}{s:St}(h:Q .normal s):Sw P n N H0 (.label l) Q s:=λF H L ha=>cw_label ⟨s,ha,h⟩
theorem sw_exit{i:Nat}{Q:Qs}{s:St}(h:Q (.exit i) s):Sw P n N H0 (.exit i) Q s:=λF H L ha=>cw_exit ⟨s,ha,h⟩
theorem sw_ret{Q:Qs}{s:St}(h:Q .ret s):Sw P n N H0 .ret Q s:=λF H L ha=>cw_ret ⟨s,ha,h⟩
theorem sw_region{id:Nat}{l:Array Oper}{Q:Qs}{s:St}(h:So P n N H0 l.toList l.toList Q s):Sw P n N H0 (.region id l false) Q s:=λF H L ha=>by
 have :=Gi_ (id:=id) (h F H L ha)
 exact sY
theorem so_nil{all:List Oper}{Q:Qs}{s:St}(h:Q .normal s):So P n N H0 all [] Q s:=λF H L ha=>L5_ ⟨s,ha,h⟩
theorem sw_cond{c:Operand}{x y:Code}{Q:Qs}{s:St}{b:Bool}(hc:evP s.F c = .bool b)(ht:b=true->Sw P n N H0 x Q s)(hf:b=false->Sw P n N H0 y Q s):Sw P n N H0 (.cond c x y) Q s:=λF H L ha=>by
 have h1:=Dn_ ha.f c
 unfold Ok1 at h1
 rw[hc] at h1
 exact cw_cond h1.sim.inv_bool (λe=>ht e F H L ha) (λe=>hf e F H L ha)
theorem so_pop{tb:Tb}{all rest:List Oper}{op:Op}{ty d:Nat}{pos:String}{af:Array Edge}{Q:Qs}{s:St}{r:PR}(ht:tbB P tb=true)(hd:Nat.blt d n=true)(h:pop tb s.L s.F op=some r)(hp:AllP r.ps)(he:∀ x,r.lk=some x->x.2.1=x.2.2)
   (k:So P n N H0 all rest Q ⟨updp s.F d r.v,s.L⟩):So P n N H0 all (⟨some d,op,ty,pos,af,none⟩::rest) Q s:=λF H L ha=>by
 have⟨val,h1,h2⟩:=pop_ok (N:=N) (ty:=ty) ht ha.f ha.l h hp he
 exact ow1 (Q0_ hd (h2 H L (.refl H) (λ_ _=>rfl)) (k _ _ _ (ha.put d h1)))
theorem Qz_{t:Nat}:∀ {ts:List Nat},memB ts t=true->t∈ts
 |[],h=>by cases h
 |s::r,h=>by
   simp only[memB] at h
   cases e:AR t s with
   |true=>rw[AM e];exact B8
   |false=>rw[e] at h;exact AI _ (Qz_ h)
theorem Lv_{G:Nat->PV}{g:Bool}:∀ {ts:List Nat} {k:List Prop},AllP (Vc_ G g ts k)->AllP k/\∀ t∈ts,∀ c v,G t = .gv c v->g=true->c=true
 |[],k,h=>⟨h,λt ht=>by cases ht⟩
 |t::r,k,h=>by
   simp only[Vc_] at h
   split at h
   . rename_i c v e
     have⟨h1,h2⟩:=h
     have⟨h3,h4⟩:=Lv_ h2
     refine⟨h3,λt' ht' c' v' e' hg=>?_⟩
     rcases List.mem_cons.1 ht' with rfl|q
     . rw[e] at e';cases e';exact h1 hg
     . exact h4 t' q c' v' e' hg
   . rename_i hne
     have⟨h3,h4⟩:=Lv_ h
     refine⟨h3,λt' ht' c' v' e' hg=>?_⟩
     rcases List.mem_cons.1 ht' with rfl|q
     . exact absurd e' (hne c' v')
     . exact h4 t' q c' v' e' hg
theorem Xk_{g:Bool}(hg:g=true):∀ {ps:List Prop},AllP (guardP g ps)->AllP ps
 |[],h=>h
 |_::_,h=>⟨h.1 hg,Xk_ hg h.2⟩
theorem Ri_{sL:Nat->Blk}{G:Nat->PV}{F:Fr}{H:Hp}{ts:List Nat}(hG:∀ t,SimT sL H (G t) (F t))(hc:∀ t∈ts,∀ c v,G t = .gv c v->c=true)(hn:∀ t∈ts,(strip (G t)).noOsl=true\/strip (G t)=G t)(t:Nat):SimT sL H (strG ts G t) (F t):=by
 unfold strG
 cases e:memB ts t with
 |false=>exact hG t
 |true=>
   have hm:=Qz_ e
   have h1:=hG t
   show SimT sL H (strip (G t)) (F t)
   rcases hn t hm with q|q
   . refine Sim.simT ?_ q
     have h1:=h1.sim
     generalize he:G t=p at *
     cases p with
     |gv c v=>
       have :=hc t hm c v he
       subst this
       rcases h1.inv_gv with ⟨_,h2⟩|⟨h2,_⟩
       . exact h2
       . cases h2
     |_=>exact h1
   . rw[q];exact h1
def Qa_(G:Nat->PV):List Nat->Bool
 |[]=>true
 |t::r=>(match G t with| .gv _ v=>v.noOsl|_=>true)&&Qa_ G r
theorem Kn_{G:Nat->PV}:∀ {ts:List Nat},Qa_ G ts=true->∀ t∈ts,(strip (G t)).noOsl=true\/strip (G t)=G t
 |[],_,t,ht=>by cases ht
 |a::r,h,t,ht=>by
   simp only[Qa_,A3] at h
   rcases List.mem_cons.1 ht with rfl|q
   . generalize G t=p at *
     cases p with
     |gv c v=>exact .inl h.1
     |_=>exact .inr Y
   . exact Kn_ h.2 t q
end Go.SW
