/-
  A part of the proof of VaultAgain: The ground of all walks of this seat: frames as functions, a world seen as three parts that lie apart (what
-/
import Derived.WalkSpells
import Derived.WalkLawsBesides
import Derived.Deep.Quiet
import Derived.Lib.Strings
set_option linter.unusedVariables false
set_option linter.unusedSimpArgs false
set_option maxRecDepth 100000
set_option maxHeartbeats 4000000
open Array renaming ext'->E7,foldl_toList->FG,getD_eq_getD_getElem?->AL,getElem?_eq_none->D2,getElem?_modify->CA,getElem?_setIfInBounds->DX,length_toList->DE,range->GM,toList_zipIdx->F8
open BitVec renaming ofInt->AF
open Bool renaming and_eq_true->A5
open Go renaming isAgg->DF
open Go.Act renaming put->GR
open Go.Builtin renaming append_->CD,firstCells->AK,lenOf->BS,len_->FY,max2->ED,max_->FZ,zeroCells->AR
open Go.Calls renaming mono->GS
open Go.Deferred renaming ofValue->F7
open Go.Exit renaming inBlock->GK
open Go.Instr renaming box->GX,build->GN,fieldAt->G2,fill->FH,indexAt->G3,slice->CN,sliceAt->CB,sliceBound->C0,sliceBounds->BV,storeAt->G5,sureAddr->D9
open Go.IntKind renaming bits->AC,max->DN,min->EP,signed->D5,wrap->A0
open Go.Op renaming eqFields->H4,equalIn->D7,intArith->FK,intBits->DP,intCmp->DH,maxDepth->H6,stringOp->E5
open Go.Oper renaming apart_spec->E3,quietUpon->G1,upon->DU,wp->BJ
open Go.Program renaming cellsOf->DR
open Go.Question renaming appendCap->BI,cut->E8
open Go.Region renaming binds->CW,ready->CH,wanted->C2
open Go.Result renaming andThen_ok->DK
open Go.Rows renaming mono->H3
open Go.Sem renaming run_bind->CC
open Go.Value renaming cells->EZ
open Go.World renaming cell?->CE,freeze->GF,setCell->G4,shape?->EQ
open Int renaming ediv_le_self->DZ,ediv_nonneg->E6,le_of_lt->D6,le_trans->GT
open List renaming drop_set_of_lt->FF,foldl_cons->BP,getElem?_append_left->CT,getElem?_append_right->BB,getElem?_drop->CO,getElem?_eq_getElem->AA,getElem?_map->B8,getElem?_take->BA,getElem?_toArray->EY,length_append->A1,length_cons->A3,mem_cons_of_mem->AB,mem_cons_self->AG,nil_append->AV,range->FL,take_add_one->CR,take_left->G6,take_of_length_le->AD,take_set_of_le->DD
open Nat renaming add_assoc->C7,add_mul->B7,add_sub_cancel_left->C9,add_zero->E4,beq->AW,ble->F0,eq_of_beq_eq_true->AQ,le_of_ble_eq_true->BZ,le_of_eq->FM,le_of_not_lt->DY,le_refl->BF,le_trans->AZ,mul_le_mul_right->BQ,mul_one->GY,one_mul->EE,zero_add->BD,zero_le->AT,zero_mul->EF
open Option renaming bind_some->BY,getD_some->DO,map_some->BT
theorem Z.{u}{α:Sort u}{a:α}:a=a:=rfl
theorem U:True:=trivial
section
variable{p:Prop}
theorem aF(h:p:=by repeat' first|exact U|refine⟨λhc=>hc,?_⟩):p:=h
theorem zA(h:p:=by (repeat' split)<;>first|rfl|(exfalso;omega)|(exfalso;simp_all;done)|(exfalso;simp_all;omega)|grind):p:=h
theorem zB(h:p:=by cases b<;>cases want<;>simp_all):p:=h
theorem zC(h:p:=by cases op<;>simp[eqGuard]):p:=h
theorem zD(h:p:=by
 congr 1
 omega):p:=h
theorem zE(h:p:=by exact (Ls_ (by decide) h1).elim):p:=h
theorem zF(h:p:=by exact (key N L w i hL hm).mono λ_ _ ⟨v,H',o',h1,⟨vc',h5,h6,h7⟩,h3,h4⟩=>⟨v,H',vc',h1,h6,h7,h3,by rw[<- h5];exact h4⟩):p:=h
theorem zG(h:p:=by exact X0_ (l:=⟨_⟩) (X0_ h (by omega) Z) (by simp;omega) Z):p:=h
theorem zH(h:p:=by exact bt (P:=Q) (λ_=>h) λ_=>Q6_ h):p:=h
theorem zI(h:p:=by exact bt (P:=Q) (λ_=>h) λ_=>bt (P:=Q) (λ_=>h) λ_=>bt (P:=Q) (λ_=>h) λ_=>h):p:=h
theorem zJ(h:p:=by exact mk (zs e1) (zq e2) (zb e3) (Jl_ (Ev_ h).1) (zh e5) (zm e6) (zt e7)):p:=h
theorem zK(h:p:=by exact mk (zs e1) (zq e2) (zb e3) (zn e4) (zh e5) (Mm_ h) (zt e7)):p:=h
theorem zL(h:p:=by exact mk (zs e1) (zq e2) (zb e3) (zn e4) (zh e5) (zm e6) (zt e7)):p:=h
theorem zM(h:p:=by exact ple (by first|(rw[e];done)|(rw[e];rfl))):p:=h
theorem zN(h:p:=by exact ple (by first|rfl|(simp[Fk_,B2_, *];done))):p:=h
theorem zO(h:p:=by exact ples (by first|(rw[e];done)|(rw[e];rfl))):p:=h
theorem zP(h:p:=by exact rt1 Z Z (Am_ (λr:Bool=> .bool r) e0 (ple Z))):p:=h
theorem zQ(h:p:=by exact rt1 Z Z (Am_ (λr:Bool=> .bool r) e1 (ple Z))):p:=h
theorem zR(h:p:=by exact rt1 Z Z (Am_ (λr:Bool=> .bool r) e3 (ple Z))):p:=h
theorem zS(h:p:=by exact rt1 Z Z (Am_ (λr:Bool=> .bool r) e4 (ple Z))):p:=h
theorem zT(h:p:=by exact rt1 Z Z (Am_ (λr:Bool=> .bool r) e5 (ple Z))):p:=h
theorem zU(h:p:=by exact rt1 Z Z (Am_ (λr:Bool=> .bool r) e9 (ple Z))):p:=h
theorem zV(h:p:=by exact rt1 Z Z (Am_ (λr:I_=> .agg (I_.pc r)) e0 (ple Z))):p:=h
theorem zW(h:p:=by exact rt1 Z Z (Am_ (λr:Int=> .int .i64 r) e0 (ple Z))):p:=h
theorem zX(h:p:=by exact rt3 Z Z (E4_ (B_ (Hb_ (B_ (ple Z) (B_ (ple Z) (B_ As_ (B_ As_ (B_ As_ A0_)))))) (B_ (ple Z) (B_ (ple Z) A0_))))):p:=h
theorem zY(h:p:=by exact⟨.refl H,λ_ _=>rfl,_,this.put d (by simp[SimT,Dd_]),kk _⟩):p:=h
theorem zZ(h:p:=by exact⟨_,H,_,ha.put (by simpa using hd) _,hm.push i _,kk _⟩):p:=h
theorem yA(h:p:=by exact⟨_,hr',ha'.le,j,b,_,hL',rfl,vc',rfl,hq3 _ _ hsv.sims⟩):p:=h
theorem yB(h:p:=by exact⟨o,ho,(he F H L ha).imp λF' H' L' ⟨h1,h2,s',h3,h4⟩=>⟨⟨h1,hlle L' h2⟩,h4 F' H' L' Lk h3 (hle L' h2)⟩⟩):p:=h
theorem yC(h:p:=by exact⟨v,hr,ha'.le,_,hL',vc',rfl,hv,hq3 _ _ hsv.sims⟩):p:=h
theorem yD(h:p:=by exact⟨v,hr,ha'.le,s'.L,_,hv,e3,e4,ha'.l,ha'.g,e5⟩):p:=h
theorem yE(h:p:=by exact⟨v::vs,h1.cons h4,λw tmps htm hm=>by simp[List.mapM_cons,h3 w tmps htm hm,h2 w tmps htm hm]⟩):p:=h
theorem yG(h:p:=by first|(simp only[*,Bool.and_true,Bool.true_and,Bool.false_and,Bool.and_false,decide_true,decide_false];done)|(rw[Bool.eq_iff_iff];simp[and_assoc];done)|(rw[Bool.eq_iff_iff];simp;grind)):p:=h
theorem yH(h:p:=by
 have :(m+1)*k<=xs.length*k:=Nat.mul_le_mul_right k (by omega)
 grind):p:=h
theorem yI(h:p:=by
 have :=congrArg (List.drop 1) e
 simpa [List.drop_drop,Nat.add_comm] using this):p:=h
theorem yJ(h:p:=by
 have :=en_any (ats:=ats) (xs:=as0) ex h.cb
 grind):p:=h
theorem yK(h:p:=by
 have :a=0\/a=1:=by omega
 rcases this with rfl|rfl<;>simp):p:=h
theorem yL(h:p:=by
 have e1:(true&&(b==want))=false:=by simpa using e
 rw[e1] at k
 refine vw_qgs i hi hck hL0 hy ?_ k
 cases b<;>cases want<;>simp_all):p:=h
theorem yM(h:p:=by
 have e1:IntKind.min .u8=0:=rfl
 have e2:IntKind.max .u8=255:=rfl
 exact .int (by omega) (by omega)):p:=h
theorem yN(h:p:=by
 have e:Gi_ i=((⟨(g0).1,(g1).1,aO,aM,(⟨(g2).1,(g3).1,decide (((g4).1)=1),(g5).1,(g6).1,decide (((g7).1)=1)⟩:Q_),[],0,0,0,0,0,aJ,[]⟩:G_),((g7).2)):=by unfold Gi_ Jq_;simp only[G_.blank,D3_];(repeat first|simp only[hg0,hg1,hg2,hg3,hg4,hg5,hg6,hg7]|rw[if_pos (by omega)]|rw[if_neg (by omega)]);all_goals first|rfl|(simp[*];done)|(simp[*];rfl)
 exact ple (by first|(rw[e];done)|(rw[e];rfl))):p:=h
theorem yO(h:p:=by
 have e:Gi_ i=((⟨(g0).1,(g1).1,aO,aM,(⟨(g2).1,(g3).1,decide (((g4).1)=1),(g5).1,(g6).1,decide (((g7).1)=1)⟩:Q_),[],0,0,0,0,0,aJ,[]⟩:G_),((g7).2)):=by unfold Gi_ Jq_;simp only[G_.blank,D3_];(repeat first|simp only[hg0,hg1,hg2,hg3,hg4,hg5,hg6,hg7]|rw[if_pos (by omega)]|rw[if_neg (by omega)]);all_goals first|rfl|(simp[*];done)|(simp[*];rfl)
 exact ples (by first|(rw[e];done)|(rw[e];rfl))):p:=h
theorem yP(h:p:=by
 have e:Gi_ i=((⟨(g0).1,(g1).1,aO,aM,aP,(g2).1,0,0,0,0,0,aJ,[]⟩:G_),((g2).2)):=by unfold Gi_ Jq_;simp only[G_.blank,D3_];(repeat first|simp only[hg0,hg1,hg2]|rw[if_pos (by omega)]|rw[if_neg (by omega)]);all_goals first|rfl|(simp[*];done)|(simp[*];rfl)
 exact ple (by first|(rw[e];done)|(rw[e];rfl))):p:=h
theorem yQ(h:p:=by
 have e:Gi_ i=((⟨(g0).1,(g1).1,aO,aM,aP,(g2).1,0,0,0,0,0,aJ,[]⟩:G_),((g2).2)):=by unfold Gi_ Jq_;simp only[G_.blank,D3_];(repeat first|simp only[hg0,hg1,hg2]|rw[if_pos (by omega)]|rw[if_neg (by omega)]);all_goals first|rfl|(simp[*];done)|(simp[*];rfl)
 exact ples (by first|(rw[e];done)|(rw[e];rfl))):p:=h
theorem yR(h:p:=by
 have h':i.err=0:=h
 refine⟨h',?_,by simp⟩
 simp
 omega):p:=h
theorem yS(h:p:=by
 have h1:=Ff_ h0
 have p0:=df h1
 refine kR 7 ?_
 exact congrArg PV.bool (eqL_len (by assumption)).symm):p:=h
theorem yT(h:p:=by
 have h3:=(h x (List.mem_cons_self ..)).1
 simp only[List.map_cons,List.sum_cons,List.length_cons]
 omega):p:=h
theorem yU(h:p:=by
 have h4:=D6_ h3
 have p2:=dt h4
 refine kC 7 ?_
 exact nN (k+1) ⟨by omega,Vy_ hk2 (Fu_ hc0) (Fu_ hc1) (by assumption)⟩):p:=h
theorem yV(h:p:=by
 have h4:=Ff_ h3
 have p2:=df h4
 refine kR 11 ?_
 exact congrArg PV.bool (Vx_ hk2 (Fu_ hc0) (Fu_ hc1) (by assumption)).symm):p:=h
theorem yW(h:p:=by
 have hgf:=hge.trans e
 have g1:=hab.turnJ (M:=Mn_ L js) hn hl hpre
 rw[sel_pick] at g1
 refine⟨.refl H,λ_ _=>rfl,_,Abs.put (p:= .gv g (renR js (res A))) g1 d ?_,kk⟩
 rw[hgf]
 exact Sim.gvf):p:=h
theorem yX(h:p:=by
 have hgf:=hge.trans e
 refine k (λe=>by rw[hgf] at e;cases e) _ _ _ (hab.put d ?_)
 rw[hgf]
 exact Sim.gvf):p:=h
theorem yY(h:p:=by
 have hgt:=hge.trans e
 have hF:=h hgt
 have⟨vs,h1,h2⟩:=If_ (ats:=ats) (N5_ hab.f (λt ht c v e=>(J0_ hc).2 t ht c v e hgt) (Ja_ hno)) ha hF.cb
 refine op1_ph (hF.ph hab.g h1) h2 hd λv H' hv hl=>?_
 refine k (λ_=>hv.wf) _ _ _ ((hab.mono hl).put d ?_)
 rw[hgt]
 exact Sim.gvt hv):p:=h
theorem yZ(h:p:=by
 have p0:=df h0
 refine kR 11 ?_
 exact congrArg (PV.int .i64) (O0_ hk2 (by omega)).symm):p:=h
theorem xA(h:p:=by
 have p0:=dt h0
 exfalso
 omega):p:=h
theorem xB(h:p:=by
 have p1:=df h2
 refine kR 11 ?_
 exact congrArg PV.bool (eqL_end hk2 (by omega) (by omega)).symm):p:=h
theorem xC(h:p:=by
 have p2:=df h0
 refine go A_ 7 Z Z ⟨(by have hg:=E0_ ls (k+1);have hfl:=congrArg List.length (Cf_ (by assumption :ls[k]? = some _));simp only[List.length_append] at hfl;omega),trivial⟩ ?_
 refine nN ⟨(k+1),(n+(c0.length:Int))⟩ ?_
 have hf:=Cf_ hc0
 have hg:=E0_ ls (k+1)
 have hfl:=congrArg List.length hf
 simp only[List.length_append] at hfl
 exact⟨by omega,by (try simp only[]);omega⟩):p:=h
theorem xD(h:p:=by
 have p2:=dt h0
 exfalso
 omega):p:=h
theorem xE(h:p:=by
 intro h
 first|exact absurd h h3|(simp at h;done)|exact h.elim):p:=h
theorem xF(h:p:=by
 left
 have :n=18446744073709551615:=by omega
 subst this
 decide):p:=h
theorem xG(h:p:=by
 have⟨c0,hc0⟩:=getE (xs:=ls) (m:=k) (by omega)
 refine jA 6 Z<|kI k hc0 λw1=>?_
 refine jA 7 Z<|ef (app A_ c0 Z Z Z Z Z Z Z (Sb_ Z (λ_=>rfl)) (hs:=by have hg:=E0_ ls (k+1);have hfl:=congrArg List.length (Cf_ (by assumption :ls[k]? = some _));simp only[List.length_append] at hfl;subst hk2;(try simp only[]);omega) λu1=>?_)
 refine go A_ 8 Z Z ⟨(by have hg:=E0_ ls (k+1);have hfl:=congrArg List.length (Cf_ (by assumption :ls[k]? = some _));simp only[List.length_append] at hfl;omega),trivial⟩ ?_
 exact nN ⟨(k+1),(out++c0),(u1)⟩ ⟨by omega,by (try simp only[]);rw[Cf_ hc0,hk2]⟩):p:=h
theorem xH(h:p:=by
 have⟨h1,h⟩:=Ev_ h
 have⟨h2,h⟩:=Ev_ h
 have⟨h3,h⟩:=Ev_ h
 have :=of_decide_eq_false (Sr_ (by decide) h3)
 exact mk (zs e1) (zq e2) ⟨Jl_ h1,Jl_ h2,by omega,(Ev_ h).1⟩ (zn e4) (zh e5) (zm e6) (zt e7)):p:=h
theorem xI(h:p:=by
 have⟨q,r,e3,q1,q2⟩:=hsT.sims.inv_cons
 cases e3
 have⟨q',r',e4,_,q4⟩:=q2.inv_cons
 cases e4
 exact q4.cons q1):p:=h
theorem xJ(h:p:=by
 refine Je_ (t:=4) (i:=0) Z Z ?_
 refine kA 1 ?_
 refine ro1 (j:=0) Z Z Z ?_
 rfl):p:=h
theorem xK(h:p:=by
 refine Ty_ hs (S7_ hi hB) ?_
 grind):p:=h
theorem xL(h:p:=by
 refine bt (P:=LoP _ _) (λ_=>hn _) λ_=>?_
 exact bt (P:=LoP _ _) (λ_=>hn _) λ_=>trivial):p:=h
theorem xM(h:p:=by
 refine bt (P:=LoP _ _) (λ_=>hn) λ_=>?_
 exact bt (P:=LoP _ _) (λ_=>hn) λ_=>trivial):p:=h
theorem xN(h:p:=by
 refine congrArg (PV.int .i64) ?_
 (try simp only[bl1] at *)
 unfold T4_
 repeat (first|rw[if_pos (by omega)]|rw[if_neg (by omega)])
 all_goals first|done|rfl|omega):p:=h
theorem xO(h:p:=by
 refine congrArg (PV.int .i64) ?_
 simp only[bl1] at *
 unfold Hs_
 (repeat' split)<;>first|rfl|(exfalso;omega)|(exfalso;simp_all;done)|(exfalso;simp_all;omega)|grind):p:=h
theorem xP(h:p:=by
 refine congrArg (PV.int .i64) ?_
 simp only[bl1] at *
 unfold L2_
 (repeat' split)<;>first|rfl|(exfalso;omega)|(exfalso;simp_all;done)|(exfalso;simp_all;omega)|grind):p:=h
theorem xQ(h:p:=by
 refine congrArg (PV.int .i64) ?_
 unfold Fj_
 repeat (first|rw[if_pos (by omega)]|rw[if_neg (by omega)]|rw[if_pos (by assumption)]|rw[if_neg (not_not_intro (by assumption))])
 all_goals first|done|rfl):p:=h
theorem xR(h:p:=by
 refine congrArg PV.bool ?_
 first|(rw[<- hk2,Lr_ (k:=k) (by omega),List.all_cons];generalize ((s.getD k 0).toNat:Int)=z at *;simp[letter, *];done)|(rw[<- hk2,List.drop_of_length_le (by omega)];rfl)):p:=h
theorem xS(h:p:=by
 refine congrArg PV.bool ?_
 first|(simp[Uj_, *];done)|(simp[Uj_, *];omega)):p:=h
theorem xT(h:p:=by
 refine em1 (eC (Aj_ (Aw_ p r (L_ r2.2)) (Y2_ tick)) Z λw4=>?_)
 refine kE [8,9,10,11] 4 ?_
 refine vE 12 Z (aL A_ 6 λb6=>?_)
 refine vE 14 Z (sA A_ ?_)
 refine vE 15 Z (sA A_ ?_)
 refine kE [16] 0 ?_
 refine vD<|nX ⟨(b6),(b5)⟩ ?_ ⟨Z,U⟩ ⟨Z,Z,U⟩
 exact⟨w3,w4⟩):p:=h
theorem xU(h:p:=by
 refine em1 (eC (Aj_ (Aw_ p r (L_ r2.2)) (Y2_ tick)) Z λw4=>?_)
 refine kE [8,9,10,11] 4 ?_
 refine vE 13 Z (aL A_ 7 λb6=>?_)
 refine vE 14 Z (sA A_ ?_)
 refine vE 15 Z (sA A_ ?_)
 refine kE [16] 0 ?_
 refine vD<|nX ⟨(b5),(b6)⟩ ?_ ⟨Z,U⟩ ⟨Z,Z,U⟩
 exact⟨w3,w4⟩):p:=h
theorem xV(h:p:=by
 refine gy Ae_ 7 ?_
 exact nJ ⟨(k+1),r0.1,give_,places,slots,grants,(u_places),(u_slots),(u_grants)⟩ e15):p:=h
theorem xW(h:p:=by
 refine gy Ae_ 7 ?_
 exact nJ ⟨(k+1),work,give_,places,(slots++[r0.1]),grants,(u_places),(u1),(u_grants)⟩ e19):p:=h
theorem xX(h:p:=by
 refine gy Ae_ 7 ?_
 exact nJ ⟨(k+1),work,r0.1,places,slots,grants,(u_places),(u_slots),(u_grants)⟩ e17):p:=h
theorem xY(h:p:=by
 refine jA 1 Z<|ef (app A_ s Z Z Z Z Z Z Z (Sb_ Z (λ_=>rfl)) (hs:=by first|omega|(simp;done)|(simp;omega)) λu1=>?_)
 refine kA 3 ?_
 refine Je_ (t:=2) (i:=0) Z Z ?_
 refine kA 1 ?_
 refine ro1 (j:=0) Z Z Z ?_
 first|(exact (hb2 (by assumption)).symm)|(exact hb2 (by assumption))|simp):p:=h
theorem xZ(h:p:=by
 refine jA 1 Z<|ef (app A_ s Z Z Z Z Z Z Z (Sb_ Z (λ_=>rfl)) (hs:=by first|omega|(simp;done)|(simp;omega)) λu1=>?_)
 refine kA 3 ?_
 refine Ks_ 0 Z ?_
 refine kR 1 ?_
 simp):p:=h
theorem wA(h:p:=by
 refine kA 11 ?_
 refine Ks_ 0 Z ?_
 refine kR 1 ?_
 rw[hk2,Ob_ (by omega)]):p:=h
theorem wB(h:p:=by
 refine kA 11 ?_
 refine Ks_ 1 Z ?_
 refine kA 1 ?_
 exact rt1 Z Z (Am_ (λr:(List Q_)=> .sl Q_.pc r) e1 (ple Z))):p:=h
theorem wC(h:p:=by
 refine kA 11 ?_
 subst e3
 exact qr1):p:=h
theorem wD(h:p:=by
 refine kA 11 ?_
 subst e4
 exact qr1):p:=h
theorem wE(h:p:=by
 refine kA 11 ?_
 subst e5
 exact qr1):p:=h
theorem wF(h:p:=by
 refine kA 12 ?_
 exact rt1 Z Z (Am_ (λr:Int=> .int .i64 r) e1 (ple Z))):p:=h
theorem wG(h:p:=by
 refine kA 12 ?_
 exact rt1 Z Z (Am_ (λr:Int=> .int .i64 r) e3 (ple Z))):p:=h
theorem wH(h:p:=by
 refine kA 7 ?_
 refine rt1 Z Z ?_
 refine Kz_ ?_
 exact hb2 (by assumption)):p:=h
theorem wI(h:p:=by
 refine kA 7 ?_
 subst e1
 exact qr1):p:=h
theorem wJ(h:p:=by
 refine kA 8 ?_
 exact rR (⟨(r,l),u0,u1⟩) [0,1,2,3] e2):p:=h
theorem wK(h:p:=by
 refine kA 8 ?_
 exact rR (⟨(r0.1,r0.2),u3,u4⟩) [0,1,2,3] e13):p:=h
theorem wL(h:p:=by
 refine kA 8 ?_
 exact rR (⟨(r2.1,r2.2),u5,u6⟩) [0,1,2,3] e17):p:=h
theorem wM(h:p:=by
 refine kA 8 ?_
 exact rR (⟨(r4.1,r4.2),u7,u8⟩) [0,1,2,3] e21):p:=h
theorem wN(h:p:=by
 refine kA 8 ?_
 subst e1
 exact qr1):p:=h
theorem wO(h:p:=by
 refine kA 8 ?_
 subst e3
 exact qr1):p:=h
theorem wP(h:p:=by
 refine kA 9 ?_
 refine Je_ (t:=4) (i:=0) Z Z ?_
 refine kA 1 ?_
 refine ro1 (j:=0) Z Z Z ?_
 rfl):p:=h
theorem wQ(h:p:=by
 refine kB 10 [] λ_=>?_
 subst e1
 exact qr2):p:=h
theorem wR(h:p:=by
 refine kB 10 [] λ_=>?_
 subst e2
 exact qr2):p:=h
theorem wS(h:p:=by
 refine kB 10 [] λ_=>?_
 subst e3
 exact qr2):p:=h
theorem wT(h:p:=by
 refine kB 10 [] λ_=>?_
 subst e5
 exact qr2):p:=h
theorem wU(h:p:=by
 refine kB 10 [] λ_=>?_
 subst e7
 exact qr2):p:=h
theorem wV(h:p:=by
 refine kB 11 [] λ_=>?_
 subst e2
 exact qr3):p:=h
theorem wW(h:p:=by
 refine kB 14 [0] λB0=>?_
 exact rt1 Z Z (Am_ (λr:Int=> .int .u64 r) e0 (ple Z))):p:=h
theorem wX(h:p:=by
 refine kB 9 [] λ_=>?_
 subst e1
 exact qr2):p:=h
theorem wY(h:p:=by
 refine kB 9 [] λ_=>?_
 subst e2
 exact qr2):p:=h
theorem wZ(h:p:=by
 refine kC 5 ?_
 exact rt1 Z Z (Am_ (λr:Bool=> .bool r) e0 (ple Z))):p:=h
theorem vA(h:p:=by
 refine kC 7 ?_
 exact nI (k+1) e5):p:=h
theorem vB(h:p:=by
 refine kC 7 ?_
 exact nN (k+1) ⟨by omega,Mk_ hk2 (Fu_ hc0) (by assumption)⟩):p:=h
theorem vF(h:p:=by
 refine kC 8 ?_
 exact nN (k+1) ⟨by omega,by rw[<- hk2,Lr_ (k:=k) (by omega),List.all_cons];generalize ((s.getD k 0).toNat:Int)=z at *;simp[letter, *]⟩):p:=h
theorem vG(h:p:=by
 refine kC 9 ?_
 exact nJ ⟨(k+1),(n+r)⟩ e2):p:=h
theorem vH(h:p:=by
 refine kE [11] 1 ?_
 refine vT 12 Z (sO A_ ?_)
 refine vD<|kB 9 [] λ_=>?_
 subst e3
 exact qr2):p:=h
theorem vI(h:p:=by
 refine kE [20] 0 ?_
 refine vD<|nX ⟨(u4),(u5)⟩ ?_ ⟨Z,U⟩ ⟨Z,Z,Z,U⟩
 exact U):p:=h
theorem vJ(h:p:=by
 refine kF [11,12,13] 0 ?_
 refine vD<|kA 2 ?_
 subst e28
 exact qr1):p:=h
theorem vK(h:p:=by
 refine kL 8 (Di_ _) Z Z Z λw2=>kA 4 ?_
 exact rt1 Z Z (Am_ (λr:Bs=> .str r) e1 (ple Z))):p:=h
theorem vL(h:p:=by
 refine kR 11 ?_
 exact congrArg (PV.int .i64) (O0_ hik2 (by omega)).symm):p:=h
theorem vM(h:p:=by
 refine kR 12 ?_
 exact congrArg (PV.int .i64) (O1_ hik2 (Fu_ hc0) (by first|assumption|(simp[*];done))).symm):p:=h
theorem vN(h:p:=by
 refine kR 12 ?_
 exact congrArg (PV.int .i64) (O1_ hk2 (Fu_ hc0) (by assumption)).symm):p:=h
theorem vO(h:p:=by
 refine kR 5 ?_
 exact congrArg PV.bool (by first|rfl|decide +kernel)):p:=h
theorem vP(h:p:=by
 refine kR 8 ?_
 refine congrArg (PV.int .i64) ?_
 simp only[bl1] at *
 unfold Fg_
 (repeat' split)<;>first|rfl|(exfalso;omega)|(exfalso;simp_all;done)|(exfalso;simp_all;omega)|grind):p:=h
theorem vQ(h:p:=by
 refine kR 8 ?_
 simp[F1_, *]<;>omega):p:=h
theorem vR(h:p:=by
 refine ow1 (Km_ (i:=i) (v:= .pointer (some ⟨_,_,none⟩)) Z Z Z sz208 hi Z ?_)
 refine Jt_ ?_
 exact fnK_n (res0 Z) (.refl _) k):p:=h
theorem vS(h:p:=by
 refine ples ?_
 first|rfl|(simp[B2_,In.pc, *];done)|(simp only[B2_];split<;>simp_all [In.pc])):p:=h
theorem vU(h:p:=by
 refine ples ?_
 first|rfl|(simp[Fk_,B2_,In.pc, *];done)|(simp only[Fk_,B2_];split<;>simp_all [In.pc])):p:=h
theorem vV(h:p:=by
 refine ro1 (j:=0) Z Z Z ?_
 first|(exact (hb2 (by assumption)).symm)|(exact hb2 (by assumption))|simp):p:=h
theorem vW(h:p:=by
 refine rt1 Z Z (ple ?_)
 rfl):p:=h
theorem vX(h:p:=by
 refine rt1 Z Z (ple ?_)
 simp[J_,Out.pc, *]):p:=h
theorem vY(h:p:=by
 refine vC 5 Z F0_ Z λw3=>kE [6,7,8,9] 7 ?_
 refine vC 10 Z N9_ Z λw4=>kE [11,12] 4 ?_
 refine vC 13 Z Mu_ Z λw5=>vE 14 Z (bsl 2 i64c [F1_ d.bind.Bm_,F1_ d.bind.to',I5_ (decide (64<(d.bind.key.length:Int))) 5,H2_ d.bind.want] A_ Z Z Z Z Z (λ_=>rfl) Z (hs:=by decide) (hs2:=by decide) λu0=>?_)
 refine vE 15 Z (Pk_ 2 Z Oa_ Z λw6=>?_)
 refine kE [16] 0 ?_
 refine vD<|kR 4 ?_
 refine congrArg (PV.int .i64) ?_
 unfold Fj_
 repeat (first|rw[if_pos (by omega)]|rw[if_neg (by omega)]|rw[if_pos (by assumption)]|rw[if_neg (not_not_intro (by assumption))])
 all_goals first|done|rfl):p:=h
theorem vZ(h:p:=by
 refine vC 8 Z (Ve_ (A16.get a.rises v) (A16.get b.rises v)) Z λw4=>kE [9] 0 ?_
 refine vD<|nX () ?_ ⟨Z,U⟩ U
 exact w4):p:=h
theorem uA(h:p:=by
 refine vD<|kA 2 ?_
 exact rt2 Z Z (Am_ (λr:Mail×Bool=> .tup [.agg (Mail.pc r.1), .bool r.2]) e1 (ple Z))):p:=h
theorem uB(h:p:=by
 refine vD<|kA 2 ?_
 subst e4
 exact qr3):p:=h
theorem uC(h:p:=by
 refine vE 10 Z (sA A_ ?_)
 refine vD<|nX (b1) ?_ ⟨Z,U⟩ ⟨Z,U⟩
 exact⟨w0,w2⟩):p:=h
theorem uD(h:p:=by
 refine vE 11 Z (eq1 A_ Z U (λ_ h=>by cases h;rfl) ?_)
 refine kF [12,13,14] 0 ?_
 refine vD<|nX () ?_ ⟨Z,U⟩ U
 exact U):p:=h
theorem uE(h:p:=by
 refine vE 12 Z (sA A_ ?_)
 refine kE [13] 0 ?_
 refine vD<|nX (b1) ?_ ⟨Z,U⟩ ⟨Z,U⟩
 exact w3):p:=h
theorem uF(h:p:=by
 refine vE 13 Z (sA Bj_ ?_)
 refine vD<|nX (b2) ?_ ⟨Z,U⟩ ⟨Z,Z,U⟩
 exact⟨w2,w22p,w3,w23p⟩):p:=h
theorem uG(h:p:=by
 refine vE 22 Z (sA Bj_ ?_)
 refine gX Bj_ [23] 0 ?_
 refine vD<|nX (b2) ?_ ⟨Z,Z,U⟩ ⟨Z,Z,U⟩
 exact⟨w4,w119p,w5,w120p,w6⟩):p:=h
theorem uH(h:p:=by
 refine vE 3 Z (eC (Gt_ _ _ _) Z ?_)
 generalize hr2:Ak_ s r r0.1=r1
 intro w3
 have e5:=e4.trans (Dp_ hr2.symm)
 refine vE 6 Z (sA A_ ?_)
 refine vtp 7 Z (hr:=by kernel_rfl) (ht:=by kernel_rfl) (sA A_ ?_)
 refine kE [8] 0 ?_
 refine vD<|kA 2 ?_
 subst e5
 exact qr3):p:=h
theorem uI(h:p:=by
 refine vE 5 Z (eC (J4_ (A16.get s.rises ((place).toNat)) m (hx:=by exact hs4 _ (by omega))) Z λw2=>?_)
 refine kE [6,7,8] 2 ?_
 refine vE 10 Z (sA A_ ?_)
 refine kE [11] 0 ?_
 refine vD<|nX (b1) ?_ ⟨Z,Z,U⟩ ⟨Z,U⟩
 exact w2):p:=h
theorem uJ(h:p:=by
 refine vE 5 Z (eq1 A_ Z U (λ_ h=>by cases h;rfl) ?_)
 refine kF [6,7,13,14] 0 ?_
 refine vD<|nX () ?_ ⟨Z,U⟩ U
 exact U):p:=h
theorem uK(h:p:=by
 refine vE 6 Z (Mx_ 4 (Hq_ s (K_ d.Ah_) _) Z Z λu1 w1=>?_)
 refine kE [7,8,9,10,11] 4 ?_
 refine vE 13 Z (sA A_ ?_)
 refine kE [14,15,16] 0 ?_
 refine vD<|nX ⟨(u1),(b1)⟩ ?_ ⟨Z,Z,Z,Z,U⟩ ⟨Z,Z,U⟩
 exact⟨w0,w1⟩):p:=h
theorem uL(h:p:=by
 refine vE 7 Z (eC (Aj_ (Aw_ p r (L_ r2.2)) (Y2_ tick)) Z λw4=>?_)
 refine kE [8,9,10,11] 3 ?_
 refine vE 14 Z (sA A_ ?_)
 refine vE 15 Z (sA A_ ?_)
 refine kE [16] 0 ?_
 refine vD<|nX ⟨(b5),(b6)⟩ ?_ ⟨Z,U⟩ ⟨Z,Z,U⟩
 exact⟨w3,w4⟩):p:=h
theorem uM(h:p:=by
 refine vE 7 Z (eC (Aj_ (Aw_ p r (L_ r2.2)) (Y2_ tick)) Z λw4=>?_)
 refine kE [8,9,10,11] 3 ?_
 refine vE 14 Z (sA A_ ?_)
 refine vE 15 Z (sA A_ ?_)
 refine kE [16] 0 ?_
 refine vD<|nX ⟨(b6),(b5)⟩ ?_ ⟨Z,U⟩ ⟨Z,Z,U⟩
 exact⟨w3,w4⟩):p:=h
theorem uN(h:p:=by
 refine vE 9 Z (aL A_ 1 λb1=>?_)
 refine vE 10 Z (sA A_ ?_)
 refine vD<|nX (b1) ?_ ⟨Z,U⟩ ⟨Z,U⟩
 exact⟨w0,w2⟩):p:=h
theorem uO(h:p:=by
 refine ve2s 1 Z (hr:=by kernel_rfl) (Ji_ [0,1,2,3] (It_ l b0 b1 u0 u1) Z Z Z Z ⟨.inr Z, .inr Z, .inr Z, .inr Z,trivial⟩ Z Z Z (λ_=>rfl) (λ_=>rfl) ?_)
 rintro _ rfl
 refine kF [7,13,14] 0 ?_
 refine vD<|nX () ?_ ⟨Z,U⟩ U
 exact U):p:=h
theorem uP(h:p:=by
 refine ve2s 11 Z (hr:=by kernel_rfl) (Ji_ [1,2,3] (Jh_ l.d b1 u0 u1) Z Z Z Z ⟨.inr Z, .inr Z, .inr Z,trivial⟩ Z Z Z (λ_=>rfl) (λ_=>rfl) ?_)
 rintro _ rfl
 refine kE [12,13,14,15,16] 0 ?_
 refine vD<|nX () ?_ ⟨Z,U⟩ U
 exact U):p:=h
theorem uQ(h:p:=by
 refine ve2s 8 Z (hr:=by kernel_rfl) (Ji_ [1,2,3] (Jh_ l.d b1 u0 u1) Z Z Z Z ⟨.inr Z, .inr Z, .inr Z,trivial⟩ Z Z Z (λ_=>rfl) (λ_=>rfl) ?_)
 rintro _ rfl
 refine kE [9,10,11,12,13] 0 ?_
 refine vD<|nX () ?_ ⟨Z,U⟩ U
 exact U):p:=h
theorem uR(h:p:=by
 refine⟨by omega,?_,by simp;omega⟩
 rw[hk2,show ((g0).1).toNat-k=(((g0).1).toNat-(k+1))+1 by omega]
 have z:=λk=>readGo_ok (k:=k) (h:=h) (show Bx_ j=(g1.1,g1.2) from hg1) (by omega) (by rw[hg2];omega)
 rw[hg2] at z
 exact z _):p:=h
theorem uS(h:p:=by
 refine⟨by simp[h.1],λi p v hp hv=>?_⟩
 rw[List.getElem?_drop] at hp hv
 exact h.2 _ p v hp hv):p:=h
theorem uT(h:p:=by
 refine⟨g-j,?_⟩
 rw[List.drop_drop,show j+(g-j)=g by omega]
 exact hg):p:=h
theorem uU(h:p:=by
 refine⟨⟨a,c,rfl,hc⟩,λm hm=>?_⟩
 have⟨cs,hE,hat⟩:=hall m hm
 have e:k0=te.size:=by rw[<- hE.1,hw]
 grind):p:=h
theorem uV(h:p:=by
 rename_i e
 have⟨h1,h0,h2⟩:=ih _ _ _ _ _ _ _ _ h hp he
 refine⟨h1,h0,λx=>?_⟩
 have :=h2 x
 simp only[Hd,Cf.holds,Kt.den,e] at this ⊢
 exact this):p:=h
theorem uW(h:p:=by
 rename_i q
 exact (q h).elim):p:=h
theorem uX(h:p:=by
 repeat' split
 all_goals omega):p:=h
theorem uY(h:p:=by
 rw[Bp_ (by omega) (h1:=by omega)]
 omega):p:=h
theorem uZ(h:p:=by
 rw[Bp_ (by simp only[List.length_cons];omega) (h1:=by simp only[List.length_cons];omega)]
 simp only[List.length_cons]
 omega):p:=h
theorem tA(h:p:=by
 rw[List.mem_singleton.1 hg]
 exact hr.2):p:=h
theorem tB(h:p:=by
 rw[List.mem_singleton.1 q]
 exact V2_ h.stk):p:=h
theorem tC(h:p:=by
 rw[e]
 intro _
 rw[rd_ar hA h.ro (by have :=h.ge;omega) (by omega)]
 simp only[]
 omega):p:=h
theorem tD(h:p:=by
 rw[e]
 try (rw[show Fj_ d=0 by assumption])):p:=h
theorem tE(h:p:=by
 rw[e] at hr hw
 exact⟨_,Sim.int hr.1 hr.2,λH' L' _ _=>hw H' L'⟩):p:=h
theorem tF(h:p:=by
 rw[hb.block c (by by_cases q:c<w.heap.size;exact q;rw[Array.getElem?_eq_none (by omega)] at ho;cases ho)]
 exact ho):p:=h
theorem tG(h:p:=by
 rw[hb] at h3
 have⟨vs,hL,hs⟩:=h3
 have hsz':=(Ef_ ht hti).sz
 rw[hsz] at hsz'
 refine Km_ h1.inv_own Z (h2.sim.one ho) hsz' hL (by rw[hs.1];exact hl) ?_
 refine⟨.refl H,only,_,ha.turnB (B:= .box _ T0 (cs.set off p)) i U ⟨_,rfl,?_⟩,k⟩
 have h4:=hs.set off h2
 exact⟨h4.1,λj q v hq hv=>Pc_ hb (h4.2 j q v hq hv)⟩):p:=h
theorem tH(h:p:=by
 rw[hb] at h6
 have⟨vc,hL,hsv⟩:=h6
 intro a w hA hm
 rw[if_pos (by simp[Region.wanted])]
 unfold Oper.wp
 rw[hA.eval,h2]
 refine (h.run N H L w b' i v1 vs vc hab.g g3 h4 hL hsv.sims hm).mono λe' w' ⟨v,H',vc',he,hv,hp,hl,hm'⟩=>?_
 subst he
 refine⟨_,H',_,hA.put (by simpa using hd) v,hm',hl,only,_,Abs.put (p:=res) ((hab.mono hl).turnB (B:= .box b' T0 post) i U ⟨vc',rfl,H7_ hp h.np⟩) d (hv.simT h.no),k hv.wf hp.wf⟩):p:=h
theorem tI(h:p:=by
 rw[hj]
 have e1:¬(((j:Nat):Int) == -1)=true:=by simp<;>omega
 have e2:¬(((j:Nat):Int)+1 == -1)=true:=by simp<;>omega
 rw[if_neg e1,if_neg e1,if_neg e2]
 have e3:(((j:Nat):Int)+1).toNat=j+1:=by omega
 rw[e3,Int.toNat_natCast]
 simp):p:=h
theorem tJ(h:p:=by
 rw[hk2,Fu_ hc0]
 simp only[N2_]
 first|(simp only[hasP];simp[*];done)|(unfold hasP;simp_all;done)|(unfold hasP;grind)):p:=h
theorem tK(h:p:=by
 rw[hk2,show ((g0).1).toNat-k=(((g0).1).toNat-(k+1))+1 by omega]
 exact Q3_ (show Bx_ j=(g1.1,g1.2) from hg1) (by omega)):p:=h
theorem tL(h:p:=by
 rw[hk2,show ((g0).1).toNat-k=(((g0).1).toNat-(k+1))+1 by omega]
 have z:=λk=>Q4_ (k:=k) (h:=h) (show Bx_ j=(g1.1,g1.2) from hg1) (by omega) (by rw[hg2];omega)
 rw[hg2] at z
 exact z _):p:=h
theorem tM(h:p:=by
 rw[hk2,show ((g0).1).toNat-k=0 by omega]
 rfl):p:=h
theorem tN(h:p:=by
 rw[hl] at hc
 simp[execOp,Instr.loadAt,hx,Instr.sureAddr,loadVar,hg w,hk w,hc]):p:=h
theorem tO(h:p:=by
 rw[if_neg (by omega),hk2,List.drop_of_length_le (by omega)]
 rfl):p:=h
theorem tP(h:p:=by
 rw[if_pos e] at h
 exact absurd h e):p:=h
theorem tQ(h:p:=by
 rw[this]
 exact⟨_,H,_,ha.put (by simpa using hd) _,hm.push i _,k _⟩):p:=h
theorem tR(h:p:=by
 show selL L js M q=L q
 unfold selL
 rw[Tp_ hq]):p:=h
theorem tS(h:p:=by
 show w.drew.alloc _=w.drew.alloc _
 congr 2
 apply Array.ext'
 simp):p:=h
theorem tT(h:p:=by
 simp only at h
 rw[e] at h
 rw[<- h,List.map_map]
 congr 1):p:=h
theorem tU(h:p:=by
 simp only[Bool.and_eq_true] at hck
 exact vw_none hck.1.1.1 hw):p:=h
theorem tV(h:p:=by
 simp only[Bool.not_eq_true',decide_eq_false_iff_not] at e
 exact (e h).elim):p:=h
theorem tW(h:p:=by
 simp only[Bool.not_eq_true',decide_eq_false_iff_not] at e
 exact (e q).elim):p:=h
theorem tX(h:p:=by
 simp only[Bool.not_eq_true',decide_eq_false_iff_not] at e1
 exact (e1 e2).elim):p:=h
theorem tY(h:p:=by
 simp only[IntKind.wrap,IntKind.bits,IntKind.signed]
 simp
 omega):p:=h
theorem tZ(h:p:=by
 simp only[IntKind.wrap,IntKind.bits,IntKind.signed]
 simp
 split<;>omega):p:=h
theorem sC(h:p:=by
 simp only[List.append_assoc]
 exact Hl_ h1.1 (by omega)):p:=h
theorem sD(h:p:=by
 simp only[List.append_assoc]
 exact Kg_ (h1:=by omega) (h2:=by omega)):p:=h
theorem sE(h:p:=by
 simp only[List.length_append,List.length_cons,List.length_nil]
 omega):p:=h
theorem sF(h:p:=by
 simp only[List.length_append]
 omega):p:=h
theorem sG(h:p:=by
 simp only[List.length_cons]
 omega):p:=h
theorem sH(h:p:=by
 simp only[List.length_nil] at hk
 have e:decide (k<r1.1)=false:=decide_eq_false (by omega)
 rw[e]
 simp):p:=h
theorem sI(h:p:=by
 simp only[Pair.wf] at q
 omega):p:=h
theorem sJ(h:p:=by
 simp only[SimT,Gg_ e] at h ⊢
 exact h):p:=h
theorem sK(h:p:=by
 simp only[Sl_ e]
 exact ha.f q):p:=h
theorem sM(h:p:=by
 simp only[]
 omega):p:=h
theorem sN(h:p:=by
 simp only[]
 rw[e]
 have hlo:=M8_ (o:=o) (hok.2 c0 (List.mem_of_getElem? hc0))
 refine⟨by omega,?_,by omega⟩
 rw[hk2,Fu_ hc0,List.foldl_cons]):p:=h
theorem sP(h:p:=by
 simp only[h1,decide_false,Bool.not_false,cond_true]
 intro h
 first|exact absurd h h1|(simp at h;done)|exact h.elim):p:=h
theorem sQ(h:p:=by
 simp[Builtin.append_,run_underlying hT,run_underlying hT2,hk w,hw,hinf,hl,h63,h1,hm00,hmk,hfit',hqf,hinf',hnil,h,hz1,hz2,newRow,bx,askRoom,<- hnc,news,T5_]
 first|done|rfl|(show w.drew.alloc _=w.drew.alloc _;congr 2;apply Array.ext';simp;done)):p:=h
theorem sR(h:p:=by
 simp[IntKind.wrap,IntKind.bits,IntKind.signed]
 omega):p:=h
theorem sS(h:p:=by simp[execOp,Instr.loadAt,hx,Instr.sureAddr,loadVar,hg w,hc]):p:=h
theorem sT(h:p:=by simpa [Builtin.firstCells] using this):p:=h
theorem sU(h:p:=by simpa using this):p:=h
theorem sV(h:p:=by
 subst e
 simp only[Dd_,Co_]
 exact hx):p:=h
theorem sW(h:p:=by
 subst e
 simp only[Ni_]
 exact (h H _ (ha.f q).sim).simT hn):p:=h
theorem sX(h:p:=by
 subst e1
 simp only[Dd_]
 have :ofE (L i) 0=L i:=by cases L i<;>rfl
 rw[this]
 exact hB):p:=h
theorem sY(h:p:=by
 subst e3
 exact qr2):p:=h
theorem sZ(h:p:=by
 subst e4
 exact qr2):p:=h
theorem rA(h:p:=by
 subst e5
 exact qr2):p:=h
theorem rB(h:p:=by
 subst hji
 exact Y1_ hi hm (hq H L (.refl _) hL a ha) λw' hw'=>⟨_,H,L,ha.putO hdi v,hw', .inl ⟨.refl _, .inr (.inl Z)⟩,hv⟩):p:=h
theorem rC(h:p:=by
 unfold H4_
 repeat (first|rw[if_pos (by omega)]|rw[if_neg (by omega)])
 rfl):p:=h
theorem rD(h:p:=by
 unfold Oper.quietAt
 rw[ha.eval,h H' L' hh hl _ _ _ _ w hw]
 exact⟨rfl,rfl⟩):p:=h
theorem rE(h:p:=by
 unfold Oper.quietAt
 rw[ha.eval,he]
 exact⟨rfl,(h.le hh) N L' w hw⟩):p:=h
theorem rF(h:p:=by
 unfold Oper.wp
 rw[ha.eval,h _ _ _ _ w hm]
 exact⟨_,_,_,ha.put (by simpa using hd) v,hm,k⟩):p:=h
theorem rG(h:p:=by
 unfold isBad
 rw[hj2,List.drop_of_length_le (by omega)]
 first|(simp[*];done)|simp_all):p:=h
theorem rH(h:p:=by
 have h1:=D6_ h0
 have p4:=dt h1
 refine kL 6 Mu_ Z Z Z λw1=>kR 4 ?_
 exact xN):p:=h
theorem rI(h:p:=by
 refine Je_ (t:=2) (i:=0) Z Z ?_
 refine kA 2 ?_
 exact vV):p:=h
theorem rJ(h:p:=by
 refine aN [1,2,5,6,7,8,9,10] 9 mixd<|kE [0,1,2,4,5] 4 ?_
 exact uH):p:=h
theorem rK(h:p:=by
 refine em1 (aL A_ 6 λb6=>?_)
 exact uM):p:=h
theorem rL(h:p:=by
 refine em1 (aL A_ 6 λb6=>?_)
 refine vE 4 Z (eC (Fh_ p (L_ r2.2)) Z λw3=>?_)
 exact uM):p:=h
theorem rM(h:p:=by
 refine em1 (aL A_ 7 λb6=>?_)
 exact uL):p:=h
theorem rO(h:p:=by
 refine em1 (aL A_ 7 λb6=>?_)
 refine vE 4 Z (eC (Fh_ p (L_ r2.2)) Z λw3=>?_)
 exact uL):p:=h
theorem rP(h:p:=by
 refine gmy Ae_ 17 [] λ_=>?_
 subst e14
 exact zX):p:=h
theorem rS(h:p:=by
 refine gmy Ae_ 17 [] λ_=>?_
 subst e16
 exact zX):p:=h
theorem rT(h:p:=by
 refine gmy Ae_ 17 [] λ_=>?_
 subst e18
 exact zX):p:=h
theorem rU(h:p:=by
 refine kA 9 ?_
 subst e4
 exact qr1):p:=h
theorem rV(h:p:=by
 refine kB 16 [0] λB0=>?_
 exact zP):p:=h
theorem rW(h:p:=by
 refine kB 9 [1] λB1=>?_
 refine aN [2,3,4,5,6,7] 17 mixd<|kE [0,1] 15 ?_
 refine vC 2 Z F0_ Z λw2=>kE [3,4] 12 ?_
 exact vY):p:=h
theorem rX(h:p:=by
 refine kC 8 ?_
 refine nN (k+1) ?_
 refine⟨by omega,?_⟩
 exact tJ):p:=h
theorem rY(h:p:=by
 refine kL 4 (Lf_ _) Z Z Z λw2=>?_
 have :=P5_ d.Ah_
 refine kR 6 ?_
 exact xQ):p:=h
theorem rZ(h:p:=by
 refine kR 8 ?_
 exact xO):p:=h
theorem qA(h:p:=by
 refine kR 8 ?_
 exact xQ):p:=h
theorem qB(h:p:=by
 refine lt1E (P:=LoP _ _) (λ_=>True) U λv _=>?_
 exact xL):p:=h
theorem qC(h:p:=by
 refine ple ?_
 refine congrArg (PV.int .i64) ?_
 simp only[bl1] at *
 unfold Vj_
 exact zA):p:=h
theorem qK(h:p:=by ((try have :=hrl (by assumption));first|omega|(simp[C_,Af_,Ad_,numK]<;>omega))):p:=h
theorem oG(h:p:=by (try dsimp only);first|omega|exact Lk_):p:=h
theorem pP(h:p:=by (try dsimp only);omega):p:=h
theorem pR(h:p:=by (try simp only[List.length_append,List.length_cons,List.length_nil]);omega):p:=h
theorem pG(h:p:=by (try simp only[]);omega):p:=h
theorem qP(h:p:=by (try simp only[]);rw[Bp_ (by omega) (h1:=by omega)];omega):p:=h
theorem qZ(h:p:=by as_aux_lemma=>kernel_rfl):p:=h
theorem qG(h:p:=by assumption):p:=h
theorem qS(h:p:=by cases h):p:=h
theorem qF(h:p:=by decide):p:=h
theorem qY(h:p:=by decide +kernel):p:=h
theorem oZ(h:p:=by first|(simp;done)|exact (hu _ (by omega)).1):p:=h
theorem qU(h:p:=by first|assumption|exact Ea_ (by assumption)):p:=h
theorem oD(h:p:=by first|assumption|exact Eq.symm (by assumption)):p:=h
theorem nO(h:p:=by first|assumption|exact StOk.pol (by assumption)):p:=h
theorem pH(h:p:=by first|assumption|exact StOk.stk (by assumption)):p:=h
theorem oU(h:p:=by first|assumption|exact Vc_ (by decide +kernel)):p:=h
theorem pO(h:p:=by first|assumption|exact dd1 (by decide +kernel)|exact⟨by first|(simp;done)|omega,by first|(simp;done)|omega,by first|(simp;done)|((try dsimp only);omega),by first|(simp;done)|((try dsimp only);omega)⟩):p:=h
theorem pF(h:p:=by first|assumption|omega):p:=h
theorem pY(h:p:=by first|assumption|omega|(dsimp only;omega)|decide +kernel):p:=h
theorem oK(h:p:=by first|exact Ub_ (by assumption) (by omega)|exact Uc_ (by assumption) (by assumption) (by assumption) (by omega)|exact Ud_ (m:=_) (by assumption) (by assumption) (by assumption) (by omega) (by first|assumption|exact Eq.symm (by assumption)) (by assumption) (by assumption) (by assumption) Z (by assumption)):p:=h
theorem oJ(h:p:=by first|exact Wd_ (by omega) (by omega)|exact Zg_ (by assumption) (by omega) (by omega)|exact We_ (m:=_) (by omega) (by omega) (by first|assumption|exact Eq.symm (by assumption)) (by assumption) (by assumption) (by assumption) Z (by assumption)):p:=h
theorem nA(h:p:=by first|exact off_refl|(repeat (first|exact off_mask|refine off_upd Z ?_|refine off_mask2 Z ?_))):p:=h
theorem oB(h:p:=by first|exact w.2.2.1|exact w.2.2.2.1|exact w.2.2.2):p:=h
theorem qH(h:p:=by first|omega|((try simp only[]);omega)|(simp only[List.length_append,List.length_cons,List.length_nil,List.length_take,List.length_drop] at *;omega)):p:=h
theorem oE(h:p:=by first|omega|(simp only[List.length_append];omega)):p:=h
theorem qV(h:p:=by first|omega|(simp only[];omega)):p:=h
theorem qN(h:p:=by first|omega|(simp only[gOf,bl2] at *;omega)):p:=h
theorem qL(h:p:=by first|omega|(simp;done)|(simp;omega)):p:=h
theorem oI(h:p:=by first|omega|(simp;done)|decide +kernel):p:=h
theorem nB(h:p:=by first|omega|(simp<;>omega)|(subst_vars;decide +kernel)):p:=h
theorem oO(h:p:=by have :=Nat.le_of_ble_eq_true hs;simp[hsim.1];exact this):p:=h
theorem pQ(h:p:=by have :=Nat.le_of_ble_eq_true hs;simp[hsim.1];omega):p:=h
theorem oQ(h:p:=by have :=h1.inv_str.2;simp;omega):p:=h
theorem oL(h:p:=by have :=nik_r h.stk;simpa using this):p:=h
theorem pI(h:p:=by have hg:=E0_ ls (k+1);have hfl:=congrArg List.length (Cf_ (by assumption :ls[k]? = some _));simp only[List.length_append] at hfl;omega):p:=h
theorem nK(h:p:=by have hq:=Ad_ (numK bytes) n.toNat;simp[numK] at *;omega):p:=h
theorem nC(h:p:=by intro e;have :=congrArg List.length e;simp at this):p:=h
theorem qE(h:p:=by kernel_rfl):p:=h
theorem nM(h:p:=by have⟨a0,a1,a2,a3⟩:=p;have⟨b0,b1,b2,b3⟩:=q;rw[Bool.eq_iff_iff];simp):p:=h
theorem oY(h:p:=by have⟨a0,a1,a2⟩:=p;have⟨b0,b1,b2⟩:=q;rw[Bool.eq_iff_iff];simp):p:=h
theorem qD(h:p:=by omega):p:=h
theorem pL(h:p:=by rcases (by assumption :_\/(l.ready=true/\l.broken=false)) with q|q<;>first|exact absurd (by assumption) q|exact q.1):p:=h
theorem qR(h:p:=by repeat (first|exact K7_|exact LLe.refl _|exact Hu_|refine Lw_ ?_ Z)):p:=h
theorem nE(h:p:=by rw[(hc0 (by first|omega|(simp only[gOf,bl2] at *;omega)))];simp[*]):p:=h
theorem oV(h:p:=by rw[<- Act.put_comm a v u h2];exact he):p:=h
theorem nH(h:p:=by rw[<- Act.put_comm a v undef h2];exact h):p:=h
theorem nL(h:p:=by rw[<- e];exact List.mem_of_getElem? h'):p:=h
theorem pU(h:p:=by rw[Bp_ (by omega) (h1:=by omega)];omega):p:=h
theorem pW(h:p:=by rw[Gu_];exact e1):p:=h
theorem pV(h:p:=by rw[List.getElem?_map,hp];rfl):p:=h
theorem qT(h:p:=by rw[e]):p:=h
theorem oM(h:p:=by rw[h.2.2.2.1];omega):p:=h
theorem oP(h:p:=by rw[hl,Nat.add_mul];omega):p:=h
theorem oC(h:p:=by rw[hr] at q;cases q):p:=h
theorem oX(h:p:=by show (-9223372036854775808:Int)<=_;omega):p:=h
theorem oW(h:p:=by show _<=(9223372036854775807:Int);omega):p:=h
theorem qI(h:p:=by simp):p:=h
theorem oS(h:p:=by simp [World.freeze,hln]):p:=h
theorem pE(h:p:=by simp only[C_,Af_,List.length_append,Ad_,numK,List.length_nil]<;>first|omega|(simp;omega)|simp):p:=h
theorem oN(h:p:=by simp only[IntKind.wrap_u64] at *;omega):p:=h
theorem nG(h:p:=by simp only[List.length_append,List.length_cons,List.length_nil];omega):p:=h
theorem nD(h:p:=by simp only[List.length_append,List.length_cons,List.length_nil];rw[Bp_ (by omega) (h1:=by omega)];omega):p:=h
theorem nF(h:p:=by simp only[List.length_cons] at hf;omega):p:=h
theorem oT(h:p:=by simp only[List.length_cons];omega):p:=h
theorem pZ(h:p:=by simp only[decide_eq_true_eq] at e;omega):p:=h
theorem oA(h:p:=by simp only[gOf,Cc_,Ey_,Bool.and_eq_true,Bool.or_eq_true,Bool.not_eq_true',decide_eq_true_eq,decide_eq_false_iff_not,cond_true,cond_false] at hc;omega):p:=h
theorem qQ(h:p:=by simp;omega):p:=h
theorem oF(h:p:=by simp[H4_];exact⟨rfl,rfl,rfl⟩):p:=h
theorem oR(h:p:=by simp[Region.wanted,Ll_ ha hy,hb]):p:=h
theorem oH(h:p:=by simp[Region.wanted,this]):p:=h
theorem qM(h:p:=by simp[Region.wanted]):p:=h
theorem pN(h:p:=by simp[SimT,Dd_]):p:=h
theorem pM(h:p:=by simp[hx,hy]):p:=h
theorem pC(h:p:=by simp[hx]):p:=h
theorem pA(h:p:=by simp[hy]):p:=h
theorem qX(h:p:=by simp[hz]):p:=h
theorem pT(h:p:=by simpa [PV.flat] using hf):p:=h
theorem pK(h:p:=by simpa [rdB] using h1):p:=h
theorem pJ(h:p:=by simpa using e):p:=h
theorem pD(h:p:=by simpa using h):p:=h
theorem qO(h:p:=by simpa using hd):p:=h
theorem qW(h:p:=by simpa using hl):p:=h
theorem pS(h:p:=by simpa using hq):p:=h
theorem pX(h:p:=by simpa using q):p:=h
end
namespace Go.SW
abbrev Fr:=Nat->Value
abbrev Hp:=Nat->Option Obj
abbrev Ls:=Nat->Option (Nat×Obj)
theorem Z0_{a b:Nat}(h:a≠b):Nat.beq a b=false:=by
 cases e:AW a b with
 |false=>rfl
 |true=>exact absurd (AQ e) h
def upd(F:Fr)(d:Nat)(v:Value):Fr:=λt=>bif AW t d then v else F t
def lupd(L:Ls)(i:Nat)(x:Option (Nat×Obj)):Ls:=λj=>bif AW j i then x else L j
def ofL(bs:List (Nat×Obj)):Ls:=λi=>bs[i]?
def l0:Ls:=λ_=>none
theorem upd_same(F:Fr)(d:Nat)(v:Value):upd F d v d=v:=by simp[upd]
theorem upd_ne{F:Fr}{d t:Nat}{v:Value}(h:t≠d):upd F d v t=F t:=by
 have :AW t d=false:=Z0_ h;simp[upd,this]
theorem Co_(L:Ls)(i:Nat)(x:Option (Nat×Obj)):lupd L i x i=x:=by simp[lupd]
theorem Ci_{L:Ls}{i j:Nat}{x:Option (Nat×Obj)}(h:j≠i):lupd L i x j=L j:=by
 have :AW j i=false:=Z0_ h;simp[lupd,this]
def ev(F:Fr):Operand->Value
 | .tmp t=>F t
 | .const v=>v
 | .global g=> .pointer (some ⟨g,0,none⟩)
 | .func f=> .func (.func f) #[] #[]
structure At(n:Nat)(a:Act)(F:Fr):Prop where
 size:a.tmps.size=n
 get:∀ t,a.tmps.getD t undef=F t
 defers:a.defers=[]
theorem At.eval{n:Nat}{a:Act}{F:Fr}(h:At n a F):a.eval=ev F:=by
 funext x
 cases x with
 |tmp t=>exact h.get t
 |const v=>rfl
 |«global» g=>rfl
 |func f=>rfl
theorem At.put{n:Nat}{a:Act}{F:Fr}(h:At n a F){d:Nat}(hd:d<n)(v:Value):At n (a.put (some d) v) (upd F d v):=by
 refine⟨by simp[GR,h.size],λt=>?_,h.defers⟩;have hs:=h.size;have hg:=h.get t;by_cases e:t=d;subst e;rw[upd_same];simp[GR,hs,hd];rw[upd_ne e,<- hg];have :¬d=t:=λx=>e x.symm;simp[GR,DX,this]
structure Rest where
 heap:Hp
 os:Os
 tape:Nat->Question->Nat
 output:Array (Nat×ByteArray)
structure Mem(N:Rest)(H:Hp)(L:Ls)(w:World):Prop where
 os:w.os=N.os
 tape:w.tape=N.tape
 output:w.output=N.output
 n:∀ b o,N.heap b=some o->w.heap[b]? = some o
 h:∀ b o,H b=some o->w.heap[b]? = some o
 l:∀ i b o,L i=some (b,o)->w.heap[b]? = some o
 nh:∀ b o,N.heap b=some o->H b=none
 nl:∀ i b o,L i=some (b,o)->N.heap b=none/\H b=none
 ll:∀ i j b o o',L i=some (b,o)->L j=some (b,o')->i=j
def HLe(H H':Hp):Prop:=∀ b o,H b=some o->H' b=some o
theorem HLe.refl(H:Hp):HLe H H:=λ_ _ h=>h
theorem HLe.trans{A B C:Hp}(h:HLe A B)(k:HLe B C):HLe A C:=λb o x=>k b o (h b o x)
theorem Mem.of_same{N:Rest}{H:Hp}{L:Ls}{w w':World}(h:Mem N H L w)(ho:w'.os=w.os)(ht:w'.tape=w.tape)(hp:w'.output=w.output)(hh:∀ (b:Nat) (o:Obj),w.heap[b]? = some o->w'.heap[b]? = some o):Mem N H L w':=
 ⟨ho.trans h.os,ht.trans h.tape,hp.trans h.output,λb o x=>hh _ _ (h.n b o x),λb o x=>hh _ _ (h.h b o x),λi b o x=>hh _ _ (h.l i b o x),h.nh,h.nl,h.ll⟩
theorem Mem.drew{N:Rest}{H:Hp}{L:Ls}{w:World}(h:Mem N H L w)(k:Nat):Mem N H L {w with drawn:=k}:=h.of_same rfl rfl rfl (λ_ _ x=>x)
theorem Mem.push{N:Rest}{H:Hp}{L:Ls}{w:World}(h:Mem N H L w)(i:Nat)(o:Obj):Mem N H (lupd L i (some (w.heap.size,o))) {w with heap:=w.heap.push o}:=by
 have hb:∀ b o',w.heap[b]? = some o'->b<w.heap.size:=λb o' x=>by
   grind
 have hk:∀ b o',w.heap[b]? = some o'->(w.heap.push o)[b]? = some o':=λb o' x=>by
   have :=hb b o' x
   rw[Array.getElem?_push,if_neg qD];exact x
 refine⟨h.os,h.tape,h.output,λb o' x=>hk _ _ (h.n b o' x),λb o' x=>hk _ _ (h.h b o' x),λj b o' x=>?_,h.nh,λj b o' x=>?_,λj k b o1 o2 x y=>?_⟩;by_cases e:j=i
 . subst e;rw[Co_] at x;cases x;simp
 rw[Ci_ e] at x;exact hk _ _ (h.l j b o' x);by_cases e:j=i
 . subst e;rw[Co_] at x;cases x
   constructor
   . cases q:N.heap w.heap.size with
     |none=>rfl
     |some o1=>have :=hb _ _ (h.n _ _ q);omega
   . cases q:H w.heap.size with
     |none=>rfl
     |some o1=>have :=hb _ _ (h.h _ _ q);omega
 rw[Ci_ e] at x;exact h.nl j b o' x;by_cases e:j=i;by_cases e':k=i;omega
 . subst e;rw[Co_] at x;rw[Ci_ e'] at y;cases x
   have :=hb _ _ (h.l _ _ _ y);omega
 by_cases e':k=i
 . subst e';rw[Co_] at y;rw[Ci_ e] at x;cases y
   have :=hb _ _ (h.l _ _ _ x);omega
 rw[Ci_ e] at x;rw[Ci_ e'] at y;exact h.ll _ _ _ _ _ x y
theorem Mem.sub{N:Rest}{H:Hp}{L L':Ls}{w:World}(h:Mem N H L w)(hs:∀ i x,L' i=some x->∃ j,L j=some x)(hi:∀ i j x y,L' i=some x->L' j=some y->x.1=y.1->i=j):Mem N H L' w:=by
 refine⟨h.os,h.tape,h.output,h.n,h.h,λi b o x=>?_,h.nh,λi b o x=>?_,λi j b o o' x y=>hi i j _ _ x y Z⟩;have⟨j,hj⟩:=hs i _ x;exact h.l j b o hj;have⟨j,hj⟩:=hs i _ x;exact h.nl j b o hj
theorem Mem.clear{N:Rest}{H:Hp}{L:Ls}{w:World}(h:Mem N H L w)(i:Nat):Mem N H (lupd L i none) w:=by
 have hx:∀ j x,lupd L i none j=some x->L j=some x:=λj x y=>by
   by_cases e:j=i
   . subst e;rw[Co_] at y;cases y
   . rwa [Ci_ e] at y
 refine h.sub (λj x y=>⟨j,hx j x y⟩) (λj k x y p q e=>?_);have⟨b,o⟩:=x;have⟨b',o'⟩:=y
 cases (show b=b' from e)
 exact h.ll j k b o o' (hx _ _ p) (hx _ _ q)
theorem Mem.set{N:Rest}{H:Hp}{L:Ls}{w w':World}(h:Mem N H L w){i b:Nat}{o o':Obj}(hi:L i=some (b,o))(ho:w'.os=w.os)(ht:w'.tape=w.tape)(hp:w'.output=w.output)
   (hb:w'.heap[b]? = some o') (hh:∀ c x,c≠b->w.heap[c]? = some x->w'.heap[c]? = some x):Mem N H (lupd L i (some (b,o'))) w':=by
 have hn:=h.nl i b o hi;refine⟨ho.trans h.os,ht.trans h.tape,hp.trans h.output,λc x y=>?_,λc x y=>?_,λj c x y=>?_,h.nh,λj c x y=>?_,λj k c x x' y z=>?_⟩
 . refine hh _ _ (λe=>?_) (h.n c x y);subst e;rw[hn.1] at y;cases y
 . refine hh _ _ (λe=>?_) (h.h c x y);subst e;rw[hn.2] at y;cases y
 by_cases e:j=i
 . subst e;rw[Co_] at y;cases y;exact hb
 rw[Ci_ e] at y;refine hh _ _ (λe'=>?_) (h.l j c x y);subst e';exact e (h.ll _ _ _ _ _ y hi);by_cases e:j=i
 . subst e;rw[Co_] at y;cases y;exact hn
 rw[Ci_ e] at y;exact h.nl j c x y;by_cases e:j=i;by_cases e':k=i;omega
 . subst e;rw[Co_] at y;cases y;rw[Ci_ e'] at z;exact h.ll _ _ _ _ _ hi z
 by_cases e':k=i
 . subst e';rw[Co_] at z;cases z;rw[Ci_ e] at y;exact h.ll _ _ _ _ _ y hi
 rw[Ci_ e] at y;rw[Ci_ e'] at z;exact h.ll _ _ _ _ _ y z
def hadd(H:Hp)(b:Nat)(o:Obj):Hp:=λc=>if c=b then some o else H c
theorem hadd_le{H:Hp}{b:Nat}{o:Obj}(h:H b=none):HLe H (hadd H b o):=λc x y=>by
 by_cases e:c=b
 . subst e;rw[h] at y;cases y
 . simp[hadd,e,y]
theorem Mem.give{N:Rest}{H:Hp}{L:Ls}{w:World}(h:Mem N H L w){i b:Nat}{o:Obj}(hi:L i=some (b,o)):Mem N (hadd H b o) (lupd L i none) w/\HLe H (hadd H b o):=by
 have hn:=h.nl i b o hi;have hc:=h.clear i;refine⟨⟨h.os,h.tape,h.output,h.n,λc x y=>?_,hc.l,λc x y=>?_,λj c x y=>?_,hc.ll⟩,hadd_le hn.2⟩;by_cases e:c=b;subst e;simp[hadd] at y;subst y;exact h.l i _ _ hi;simp[hadd,e] at y;exact h.h c x y;have e:c≠b:=λe=>by subst e;rw[hn.1] at y;cases y
 simp[hadd,e];exact h.nh c x y;have q:=hc.nl j c x y;refine⟨q.1,?_⟩;by_cases e:j=i
 . subst e;rw[Co_] at y;cases y
 rw[Ci_ e] at y;have e':c≠b:=λe'=>by subst e';exact e (h.ll _ _ _ _ _ y hi)
 simp[hadd,e'];exact q.2
open Classical in
noncomputable def Rest.plus(N:Rest)(L:Ls):Rest:=
 {N with heap:=λb=>if h:∃ x:Nat×Obj,x.1=b/\∃ i,L i=some x then some h.choose.2 else N.heap b}
theorem Rest.plus_of{N:Rest}{H:Hp}{L:Ls}{w:World}(h:Mem N H L w){i b:Nat}{o:Obj}(hi:L i=some (b,o)):(N.plus L).heap b=some o:=by
 have hx:∃ x:Nat×Obj,x.1=b/\∃ i,L i=some x:=⟨(b,o),rfl,i,hi⟩;simp only[Rest.plus,dif_pos hx];have⟨h1,j,h2⟩:=hx.choose_spec;have h3:=h.l i b o hi;have h4:=h.l j hx.choose.1 hx.choose.2 h2;grind
theorem Rest.plus_cases{N:Rest}{L:Ls}{b:Nat}{o:Obj}(h:(N.plus L).heap b=some o):(∃ i,L i=some (b,o))\/N.heap b=some o:=by
 by_cases hx:∃ x:Nat×Obj,x.1=b/\∃ i,L i=some x;left;simp only[Rest.plus,dif_pos hx] at h;grind;right;simpa only[Rest.plus,dif_neg hx] using h
theorem Mem.frame{N:Rest}{H:Hp}{L:Ls}{w:World}(h:Mem N H L w)(Lc Lr:Ls)(hc:∀ i x,Lc i=some x->∃ j,L j=some x)(hr:∀ i x,Lr i=some x->∃ j,L j=some x)
   (hci:∀ i j x y,Lc i=some x->Lc j=some y->x.1=y.1->i=j) (hri:∀ i j x y,Lr i=some x->Lr j=some y->x.1=y.1->i=j)
   (hd:∀ i j x y,Lc i=some x->Lr j=some y->x.1≠y.1):Mem (N.plus Lr) H Lc w:=by
 have hR:Mem N H Lr w:=h.sub hr hri;have hC:Mem N H Lc w:=h.sub hc hci;refine⟨h.os,h.tape,h.output,λb o x=>?_,h.h,hC.l,λb o x=>?_,λi b o x=>⟨?_,(hC.nl i b o x).2⟩,hC.ll⟩
 . rcases Rest.plus_cases x with ⟨i,hi⟩|hn
   exact hR.l i b o hi
   exact h.n b o hn
 . rcases Rest.plus_cases x with ⟨i,hi⟩|hn
   exact (hR.nl i b o hi).2
   exact h.nh b o hn
 . cases q:(N.plus Lr).heap b with
   |none=>rfl
   |some o'=>
     rcases Rest.plus_cases q with ⟨j,hj⟩|hn
     . grind
     . have :=(hC.nl i b o x).1;rw[this] at hn;cases hn
theorem Mem.unframe{N:Rest}{H H':Hp}{L Lr L' Lj:Ls}{w w':World}(h:Mem N H L w)(hr:∀ i x,Lr i=some x->∃ j,L j=some x)(hri:∀ i j x y,Lr i=some x->Lr j=some y->x.1=y.1->i=j)
   (k:Mem (N.plus Lr) H' L' w') (hj:∀ i x,Lj i=some x->(∃ j,L' j=some x)\/(∃ j,Lr j=some x)) (hji:∀ i j x y,Lj i=some x->Lj j=some y->x.1=y.1->i=j) (hN:∀ b o,N.heap b=some o->∀ i x,Lr i=some x->x.1≠b):Mem N H' Lj w':=by
 have hR:Mem N H Lr w:=h.sub hr hri;have hp:∀ b o,N.heap b=some o->(N.plus Lr).heap b=some o:=λb o x=>by
   have hx:¬∃ y:Nat×Obj,y.1=b/\∃ i,Lr i=some y:=λ⟨y,e,i,hi⟩=>hN b o x i y hi e
   simpa only[Rest.plus,dif_neg hx] using x
 refine⟨k.os,k.tape,k.output,λb o x=>k.n b o (hp b o x),k.h,λi b o x=>?_,λb o x=>k.nh b o (hp b o x),λi b o x=>?_,λi j b o o' x y=>hji i j _ _ x y Z⟩
 . rcases hj i _ x with ⟨j,q⟩|⟨j,q⟩
   exact k.l j b o q
   exact k.n b o (Rest.plus_of hR q)
 . rcases hj i _ x with ⟨j,q⟩|⟨j,q⟩
   . have :=k.nl j b o q
     refine⟨?_,this.2⟩
     cases z:N.heap b with
     |none=>rfl
     |some o'=>rw[hp b o' z] at this;cases this.1
   refine⟨(hR.nl j b o q).1,k.nh b o (Rest.plus_of hR q)⟩
theorem bl1:(∀ a b:Bool,((a||b)=true)=(a=true\/b=true))/\(∀ a b:Bool,((a&&b)=true)=(a=true/\b=true))/\(∀ b:Bool,((!b)=true)=(b=false))/\(∀ (p:Prop) [Decidable p],(decide p=true)=p)/\(∀ x y:Bool,((x||y)=false)↔(x=false/\y=false))/\(∀ x y:Bool,((x&&y)=false)↔(x=false\/y=false))/\(∀ b:Bool,((!b)=false)=(b=true))/\(∀ (p:Prop) [Decidable p],(decide p=false)↔¬p)/\(∀ (α:Type) [BEq α] [LawfulBEq α] (a b:α),((a==b)=true)↔a=b)/\(∀ (α:Type) [BEq α] [LawfulBEq α] (a b:α),((a==b)=false)↔a≠b):=⟨Bool.or_eq_true,A5,λb=>by cases b<;>simp,λ_=>decide_eq_true_eq,λx y=>by cases x<;>cases y<;>simp,λx y=>by cases x<;>cases y<;>simp,λb=>by cases b<;>simp,λ_=>decide_eq_false_iff_not,λ_ _ _ _ _=>beq_iff_eq,λ_ _ _ _ _=>beq_eq_false_iff_ne⟩
theorem bl2:(∀ a b:Bool,((a&&b)=true)=(a=true/\b=true))/\(∀ a b:Bool,((a||b)=true)=(a=true\/b=true))/\(∀ b:Bool,((!b)=true)=(b=false))/\(∀ (p:Prop) [Decidable p],(decide p=true)=p)/\(∀ (p:Prop) [Decidable p],(decide p=false)↔¬p)/\(∀ b:Bool,((!b)=false)=(b=true))/\(∀ b:Bool,(b&&true)=b)/\(∀ b:Bool,(true&&b)=b)/\(∀ (α:Type) (a b:α),cond true a b=a)/\(∀ (α:Type) (a b:α),cond false a b=b):=⟨Bool.and_eq_true,Bool.or_eq_true,λb=>by cases b<;>simp,λ_=>decide_eq_true_eq,λ_=>decide_eq_false_iff_not,λb=>by cases b<;>simp,Bool.and_true,Bool.true_and,λ_ _ _=>rfl,λ_ _ _=>rfl⟩
variable{P:Program}{n:Nat}{N:Rest}
abbrev Qt:=Exit->Fr->Hp->Ls->Prop
def lift(n:Nat)(N:Rest)(Q:Qt):Exit->Act->World->Prop:=λe a w=>∃ F H L,At n a F/\Mem N H L w/\Q e F H L
def Cw(P:Program)(n:Nat)(N:Rest)(c:Code)(Q:Qt)(F:Fr)(H:Hp)(L:Ls):Prop:=
 ∀ a w,At n a F->Mem N H L w->c.wp P (lift n N Q) a w
def Ow(P:Program)(n:Nat)(N:Rest)(ops:List Oper)(rest:List Oper)(Q:Qt)(F:Fr)(H:Hp)(L:Ls):Prop:=
 ∀ a w,At n a F->Mem N H L w->wpList P ops.toArray (lift n N Q) rest a w
def seqK(P:Program)(n:Nat)(N:Rest)(y:Code)(Q:Qt):Qt:=λe F H L=>
 match e with
 | .normal=>Cw P n N y Q F H L
 |e=>Q e F H L
def blkK(id:Nat)(Q:Qt):Qt:=λe F H L=>
 match e with
 | .exit i=>bif AW i id then Q .normal F H L else Q (.exit i) F H L
 |e=>Q e F H L
theorem Ki_{x y:Code}{Q:Qt}{F:Fr}{H:Hp}{L:Ls}(h:Cw P n N x (seqK P n N y Q) F H L):Cw P n N (.seq x y) Q F H L:=by
 intro a w ha hm;refine wp_seq (wp_mono (h a w ha hm) λe a' w' q=>?_);have⟨F',H',L',ha',hm',hq⟩:=q
 cases e with
 |normal=>exact hq a' w' ha' hm'
 |_=>exact⟨F',H',L',ha',hm',hq⟩
theorem cw_block{id:Nat}{c:Code}{Q:Qt}{F:Fr}{H:Hp}{L:Ls}(h:Cw P n N c (blkK id Q) F H L):Cw P n N (.block id c) Q F H L:=by
 intro a w ha hm;refine wp_block (wp_mono (h a w ha hm) λe a' w' q=>?_);have⟨F',H',L',ha',hm',hq⟩:=q
 cases e with
 |exit i=>
   simp only[blkK] at hq
   by_cases e:i=id
   . subst e;simp only[GK,if_true];simp only[Nat.beq_refl,cond_true] at hq;exact⟨F',H',L',ha',hm',hq⟩
   . have hb:AW i id=false:=Z0_ e
     simp only[GK,if_neg e]
     rw[hb] at hq
     exact⟨F',H',L',ha',hm',hq⟩
 |_=>exact⟨F',H',L',ha',hm',hq⟩
theorem cw_skip{Q:Qt}{F:Fr}{H:Hp}{L:Ls}(h:Q .normal F H L):Cw P n N .skip Q F H L:=λ_ _ ha hm=>wp_skip ⟨F,H,L,ha,hm,h⟩
theorem cw_label{l:Nat}{Q:Qt}{F:Fr}{H:Hp}{L:Ls}(h:Q .normal F H L):Cw P n N (.label l) Q F H L:=λ_ _ ha hm=>wp_label ⟨F,H,L,ha,hm,h⟩
theorem cw_exit{id:Nat}{Q:Qt}{F:Fr}{H:Hp}{L:Ls}(h:Q (.exit id) F H L):Cw P n N (.exit id) Q F H L:=λ_ _ ha hm=>wp_exit ⟨F,H,L,ha,hm,h⟩
theorem cw_ret{Q:Qt}{F:Fr}{H:Hp}{L:Ls}(h:Q .ret F H L):Cw P n N .ret Q F H L:=λ_ _ ha hm=>wp_ret ⟨F,H,L,ha,hm,h⟩
theorem cw_cond{c:Operand}{x y:Code}{b:Bool}{Q:Qt}{F:Fr}{H:Hp}{L:Ls}(hc:ev F c = .bool b)(ht:b=true->Cw P n N x Q F H L)(hf:b=false->Cw P n N y Q F H L):Cw P n N (.cond c x y) Q F H L:=by
 intro a w ha hm;refine wp_cond_split (t:=b) (by rw[ha.eval];exact hc) (λe=>ht e a w ha hm) (λe=>hf e a w ha hm)
theorem cw_cond_t{c:Operand}{x y:Code}{b:Bool}{Q:Qt}{F:Fr}{H:Hp}{L:Ls}(hc:ev F c = .bool b)(hb:b=true)(ht:Cw P n N x Q F H L):Cw P n N (.cond c x y) Q F H L:=
 cw_cond hc (λ_=>ht) (λe=>by rw[hb] at e;cases e)
theorem Su_{c:Operand}{x y:Code}{b:Bool}{Q:Qt}{F:Fr}{H:Hp}{L:Ls}(hc:ev F c = .bool b)(hb:b=false)(hf:Cw P n N y Q F H L):Cw P n N (.cond c x y) Q F H L:=
 cw_cond hc (λe=>by rw[hb] at e;cases e) (λ_=>hf)
theorem F6_{id:Nat}{l:List Oper}{Q:Qt}{F:Fr}{H:Hp}{L:Ls}(h:Ow P n N l l Q F H L):Cw P n N (.region id l.toArray false) Q F H L:=
 λa w ha hm=>wp_region_lit (h a w ha hm)
theorem Jx_{y:Code}{Q:Qt}{F:Fr}{H:Hp}{L:Ls}(h:Cw P n N y Q F H L):seqK P n N y Q .normal F H L:=h
theorem seqK_e{y:Code}{Q:Qt}{F:Fr}{H:Hp}{L:Ls}{i:Nat}(h:Q (.exit i) F H L):seqK P n N y Q (.exit i) F H L:=h
theorem blkK_n{id:Nat}{Q:Qt}{F:Fr}{H:Hp}{L:Ls}(h:Q .normal F H L):blkK id Q .normal F H L:=h
theorem blkK_hit{id:Nat}{Q:Qt}{F:Fr}{H:Hp}{L:Ls}(h:Q .normal F H L):blkK id Q (.exit id) F H L:=by simpa [blkK] using h
def loopK(I:Nat->Fr->Hp->Ls->Prop)(k:Nat)(Q:Qt):Qt:=λe F H L=>
 match e with
 | .normal=>∃ k',k'<k/\I k' F H L
 |e=>Q e F H L
theorem loopK_e{I:Nat->Fr->Hp->Ls->Prop}{k i:Nat}{Q:Qt}{F:Fr}{H:Hp}{L:Ls}(h:Q (.exit i) F H L):loopK I k Q (.exit i) F H L:=h
theorem wp_loop_ix{c:Code}{Q:Exit->Act->World->Prop}{a:Act}{w:World}(I:Nat->Act->World->Prop)(k:Nat)(h0:I k a w)
   (round:∀ k a w,I k a w->c.wp P (Exit.then (λa' w'=>∃ k',k'<k/\I k' a' w') Q) a w):(Code.loop c).wp P Q a w:=by
 intro b t cs;have key:∀ n k a w,k=n->I k a w->∃ e a' w',Q e a' w'/\Arrives P (Go.lone (b.at a (.code c :: .inLoop c::t)) cs w) b t cs e a' w':=by
   intro n
   induction n using Nat.strongRecOn with
   |_ n ih=>
     intro k a w hn hI
     have⟨e,a₁,w₁,hq,harr⟩:=round k a w hI b (.inLoop c::t) cs
     cases e with
     |normal=>
       have⟨k',hlt,hI₁⟩:=hq
       have⟨e₂,a₂,w₂,hq₂,harr₂⟩:=ih k' (hn ▸ hlt) k' a₁ w₁ Z hI₁
       exact⟨e₂,a₂,w₂,hq₂, .of_steps (Steps.trans harr (.one step_inLoop)) harr₂⟩
     |«exit» id=>exact⟨_,a₁,w₁,hq, .pass (x:= .inLoop c) Z (λ_ _=> .inl qI) harr⟩
     |goto l=>exact⟨_,a₁,w₁,hq, .pass (x:= .inLoop c) Z (λ_ _=> .inl qI) harr⟩
     |ret=>exact⟨_,a₁,w₁,hq, .pass (x:= .inLoop c) Z (λ_ _=> .inl qI) harr⟩
     |panic ch=>exact⟨_,a₁,w₁,hq, .pass (x:= .inLoop c) Z (λ_ _=> .inl qI) harr⟩
     |outgrown=>exact⟨_,a₁,w₁,hq, .pass (x:= .inLoop c) Z (λ_ _=> .inl qI) harr⟩
 have⟨e,a',w',hq,harr⟩:=key _ k a w Z h0;exact⟨e,a',w',hq, .of_steps (.one step_loop) harr⟩
theorem cw_loop{c:Code}{Q:Qt}{F:Fr}{H:Hp}{L:Ls}(I:Nat->Fr->Hp->Ls->Prop)(k:Nat)(h0:I k F H L)
   (round:∀ k F H L,I k F H L->Cw P n N c (loopK I k Q) F H L):Cw P n N (.loop c) Q F H L:=by
 intro a w ha hm;refine wp_loop_ix (λk a w=>∃ F H L,At n a F/\Mem N H L w/\I k F H L) k ⟨F,H,L,ha,hm,h0⟩ λk a w hJ=>have⟨F1,H1,L1,ha1,hm1,hI⟩:=hJ;wp_mono (round _ F1 H1 L1 hI a w ha1 hm1) λe a' w' q=>?_;have⟨F',H',L',ha',hm',hq⟩:=q
 cases e with
 |normal=>
   have⟨k',hk',hI'⟩:=hq
   exact⟨k',hk',F',H',L',ha',hm',hI'⟩
 |_=>exact⟨F',H',L',ha',hm',hq⟩
theorem cw_weaken{c:Code}{Q:Qt}{F:Fr}{H H':Hp}{L L':Ls}(hm:∀ w,Mem N H L w->Mem N H' L' w)(h:Cw P n N c Q F H' L'):Cw P n N c Q F H L:=λa w ha hw=>h a w ha (hm w hw)
theorem Kq_{c:Code}{Q Q':Qt}{F:Fr}{H:Hp}{L:Ls}(hq:∀ e F H L,Q e F H L->Q' e F H L)(h:Cw P n N c Q F H L):Cw P n N c Q' F H L:=
 λa w ha hw=>wp_mono (h a w ha hw) λe _ _ ⟨F,H,L,x,y,z⟩=>⟨F,H,L,x,y,hq e F H L z⟩
def Lo(P:Program)(N:Rest)(op:Op)(ty:TypeId)(F:Fr)(H:Hp)(L:Ls)(v:Value):Prop:=
 ∀ (d:Option Tmp) (pos:String) (af:Array Edge) (g:Option (Nat×Bool)) w,Mem N H L w->(execOp (ev F) ⟨d,op,ty,pos,af,g⟩).run P w = .ok (.value v) w
theorem Jt_{ops:List Oper}{Q:Qt}{F:Fr}{H:Hp}{L:Ls}(h:Q .normal F H L):Ow P n N ops [] Q F H L:=λ_ _ ha hm=>⟨F,H,L,ha,hm,h⟩
def Op1(P:Program)(n:Nat)(N:Rest)(ops:List Oper)(o:Oper)(K:Fr->Hp->Ls->Prop)(F:Fr)(H:Hp)(L:Ls):Prop:=
 ∀ a w,At n a F->Mem N H L w ->
   if C2 o (yielded ops.toArray a.tmps) then o.wp P a w (λa' w'=>∃ F' H' L',At n a' F'/\Mem N H' L' w'/\K F' H' L') (λ_ _ _=>False)
   else ∃ F' H' L',At n (a.put o.dst undef) F'/\Mem N H' L' w/\K F' H' L'
theorem Q8_{o:Oper}{a:Act}{K K':Act->World->Prop}{Q Q':Exit->Act->World->Prop}{r:Result Next}(hk:∀ a w,K a w->K' a w)(hq:∀ e a w,Q e a w->Q' e a w)(h:o.upon P a K Q r):o.upon P a K' Q' r:=by
 cases r with
 |ok m w'=>
   cases m<;>simp only[DU] at h ⊢ <;>
     first
       |exact hk _ _ h
       |exact GS h (λe w'' he=>by cases e<;>first|exact hk _ _ he|exact hq _ _ _ he|(have⟨a,w,q⟩:=he;exact⟨a,w,hq _ _ _ q⟩))
       |exact H3 h (λ_ _ he=>hk _ _ he)
 |halt x w'=>cases x<;>simp only[DU] at h ⊢ <;>first|exact hq _ _ _ h|exact h
theorem ow1{ops rest:List Oper}{o:Oper}{Q:Qt}{F:Fr}{H:Hp}{L:Ls}(h:Op1 P n N ops o (λF H L=>Ow P n N ops rest Q F H L) F H L):Ow P n N ops (o::rest) Q F H L:=by
 intro a w ha hm;have :=h a w ha hm;unfold wpList
 split
 . rename_i hw
   rw[if_pos hw] at this
   left
   exact Q8_ (λa' w' ⟨F',H',L',x,y,z⟩=>z a' w' x y) (λ_ _ _ x=>x.elim) this
 . rename_i hw
   rw[if_neg hw] at this
   have⟨F',H',L',x,y,z⟩:=this
   exact z _ _ x y
theorem Iv_{ops:List Oper}{op:Op}{ty d:Nat}{pos:String}{af:Array Edge}{K:Fr->Hp->Ls->Prop}{F:Fr}{H:Hp}{L:Ls}{v:Value}(hd:Nat.blt d n=true)(h:Lo P N op ty F H L v)
   (k:K (upd F d v) H L):Op1 P n N ops ⟨some d,op,ty,pos,af,none⟩ K F H L:=by
 intro a w ha hm;rw[if_pos qM];exact rF
def yF(ops:List Oper)(F:Fr)(j:Nat):Option Value:=(ops[j]?).bind (λo=>o.dst.map F)
theorem Ll_{ops:List Oper}{F:Fr}{a:Act}(ha:At n a F){j:Nat}{b:Bool}(h:yF ops F j=some (.bool b)):yielded ops.toArray a.tmps j=some b:=by
 unfold yF at h;unfold yielded
 cases ho:ops[j]? with
 |none=>rw[ho] at h;cases h
 |some o=>
   rw[ho] at h
   simp only[BY] at h
   cases hd:o.dst with
   |none=>rw[hd] at h;cases h
   |some d=>
     rw[hd] at h
     simp only[BT,Option.some.injEq] at h
     have hg:=ha.get d
     rw[h] at hg
     simp only[EY,ho,BY,hd]
     cases hx:a.tmps[d]? with
     |none=>simp[AL,hx,undef] at hg
     |some v=>
       simp_all
theorem op1_g{ops:List Oper}{op:Op}{ty d j:Nat}{want b:Bool}{pos:String}{af:Array Edge}{K:Fr->Hp->Ls->Prop}{F:Fr}{H:Hp}{L:Ls}{v:Value}(hy:yF ops F j=some (.bool b))(hb:b=want)(hd:Nat.blt d n=true)(h:Lo P N op ty F H L v)
   (k:K (upd F d v) H L):Op1 P n N ops ⟨some d,op,ty,pos,af,some (j,want)⟩ K F H L:=by
 intro a w ha hm;rw[if_pos oR];exact rF
theorem op1_gs{ops:List Oper}{op:Op}{ty d j:Nat}{want b:Bool}{pos:String}{af:Array Edge}{K:Fr->Hp->Ls->Prop}{F:Fr}{H:Hp}{L:Ls}(hy:yF ops F j=some (.bool b))(hb:b=!want)(hd:Nat.blt d n=true)
   (k:K (upd F d undef) H L):Op1 P n N ops ⟨some d,op,ty,pos,af,some (j,want)⟩ K F H L:=by
 intro a w ha hm;rw[if_neg oR];exact⟨_,_,_,ha.put qO _,hm,k⟩
theorem yielded_undef{ops:List Oper}{F:Fr}{a:Act}(ha:At n a F){j:Nat}(h:yF ops F j=some undef):yielded ops.toArray a.tmps j=none:=by
 unfold yF at h;unfold yielded
 cases ho:ops[j]? with
 |none=>rw[ho] at h;cases h
 |some o=>
   rw[ho] at h
   simp only[BY] at h
   cases hd:o.dst with
   |none=>rw[hd] at h;cases h
   |some d=>
     rw[hd] at h
     simp only[BT,Option.some.injEq] at h
     have hg:=ha.get d
     rw[h] at hg
     simp only[EY,ho,BY,hd]
     cases hx:a.tmps[d]? with
     |none=>rfl
     |some v=>
       simp[AL,hx] at hg
       subst hg;rfl
section ops
variable{F:Fr}{H:Hp}{L:Ls}{ty:TypeId}
theorem Iu_{x:Operand}{v:Value}(h:ev F x=v):Lo P N (.move x) ty F H L v:=λ_ _ _ _ w _=>by subst h;rfl
theorem M0_{x:Operand}{v:Value}(h:ev F x=v):Lo P N (.assign x) ty F H L v:=λ_ _ _ _ w _=>by subst h;rfl
theorem Hn_{op:BinOp}{T T':TypeId}{x y:Operand}{a b v:Value}(hx:ev F x=a)(hy:ev F y=b)(hg:∀ w,(eqGuard op T x y a b).run P w = .ok () w)(h:∀ w,(binOp op T a b).run P w = .ok v w):Lo P N (.binOp op T x y T') ty F H L v:=λ_ _ _ _ w _=>by
 subst hx;subst hy
 simp[execOp,hg w,h w]
theorem E2_{op:BinOp}{T:TypeId}{x y:Operand}{k k':IntKind}{a b:Int}(w:World):(eqGuard op T x y (.int k a) (.int k' b)).run P w = .ok () w:=by
 exact zC
theorem Oy_{op:BinOp}{T:TypeId}{x y:Operand}{a b:ByteArray}(w:World):(eqGuard op T x y (.string a) (.string b)).run P w = .ok () w:=by
 exact zC
theorem U5_{op:BinOp}{T:TypeId}{x y:Operand}{a b:Bool}(w:World):(eqGuard op T x y (.bool a) (.bool b)).run P w = .ok () w:=by
 exact zC
theorem Ox_{op:BinOp}{T:TypeId}{x y:Operand}{a b:Option Addr}(w:World):(eqGuard op T x y (.pointer a) (.pointer b)).run P w = .ok () w:=by
 exact zC
variable{T T':TypeId}{x y:Operand}{k k':IntKind}{a b:Int}
theorem intBeq(a b:Int):(a==b) = decide (a=b):=rfl
theorem lo_eql(hx:ev F x = .int k a)(hy:ev F y = .int k b):Lo P N (.binOp .eql T x y T') ty F H L (.bool (decide (a=b))):=
 Hn_ hx hy (E2_) λw=>by simp[binOp,DH,intBeq]
theorem lo_neq(hx:ev F x = .int k a)(hy:ev F y = .int k b):Lo P N (.binOp .neq T x y T') ty F H L (.bool (!decide (a=b))):=
 Hn_ hx hy (E2_) λw=>by simp[binOp,DH,bne,intBeq]
theorem lo_lss(hx:ev F x = .int k a)(hy:ev F y = .int k b):Lo P N (.binOp .lss T x y T') ty F H L (.bool (decide (a<b))):=
 Hn_ hx hy (E2_) λw=>by simp[binOp,DH]
theorem lo_leq(hx:ev F x = .int k a)(hy:ev F y = .int k b):Lo P N (.binOp .leq T x y T') ty F H L (.bool (decide (a<=b))):=
 Hn_ hx hy (E2_) λw=>by simp[binOp,DH]
theorem lo_gtr(hx:ev F x = .int k a)(hy:ev F y = .int k b):Lo P N (.binOp .gtr T x y T') ty F H L (.bool (decide (b<a))):=
 Hn_ hx hy (E2_) λw=>by simp[binOp,DH]
theorem lo_geq(hx:ev F x = .int k a)(hy:ev F y = .int k b):Lo P N (.binOp .geq T x y T') ty F H L (.bool (decide (b<=a))):=
 Hn_ hx hy (E2_) λw=>by simp[binOp,DH]
theorem lo_add_w(hx:ev F x = .int k a)(hy:ev F y = .int k b):Lo P N (.binOp .add T x y T') ty F H L (.int k (k.wrap (a+b))):=
 Hn_ hx hy (E2_) λw=>by simp[binOp,FK]
theorem lo_sub_w(hx:ev F x = .int k a)(hy:ev F y = .int k b):Lo P N (.binOp .sub T x y T') ty F H L (.int k (k.wrap (a-b))):=
 Hn_ hx hy (E2_) λw=>by simp[binOp,FK]
theorem lo_mul_w(hx:ev F x = .int k a)(hy:ev F y = .int k b):Lo P N (.binOp .mul T x y T') ty F H L (.int k (k.wrap (a*b))):=
 Hn_ hx hy (E2_) λw=>by simp[binOp,FK]
theorem Qm_{k:IntKind}{z:Int}(h:k.min<=z/\z<=k.max):k.wrap z=z:=by
 cases k<;>simp[A0,EP,DN,AC,D5] at * <;>omega
end ops
theorem ol{ops rest:List Oper}{Q:Qt}{op:Op}{ty d:Nat}{pos:String}{af:Array Edge}{F:Fr}{H:Hp}{L:Ls}{v:Value}(h:Lo P N op ty F H L v)(k:Ow P n N ops rest Q (upd F d v) H L)(hd:Nat.blt d n=true:=by exact Z):Ow P n N ops (⟨some d,op,ty,pos,af,none⟩::rest) Q F H L:=ow1 (Iv_ hd h k)
def Pr(P:Program)(f:FuncId)(args:Array Value)(H:Hp)(v:Value):Prop:=
 ∀ N L w,Mem N H L w->Calls P f args w λe w'=>e = .returned v/\Mem N H L w'
def Ph(P:Program)(f:FuncId)(args:Array Value)(H:Hp)(R:Value->Hp->Prop):Prop:=
 ∀ N L w,Mem N H L w->Calls P f args w λe w'=>∃ v H',e = .returned v/\R v H'/\HLe H H'/\Mem N H' L w'
def Pm(P:Program)(f:FuncId)(args:Array Value)(H:Hp)(b:Nat)(o:Obj)(R:Value->Hp->Obj->Prop):Prop:=
 ∀ N L w i,L i=some (b,o)->Mem N H L w->Calls P f args w λe w'=>∃ v H' o',e = .returned v/\R v H' o'/\HLe H H'/\Mem N H' (lupd L i (some (b,o'))) w'
def Pn(P:Program)(f:FuncId)(args:Array Value)(H:Hp)(R:Value->Hp->Nat->Obj->Prop):Prop:=
 ∀ N L w i,Mem N H L w->Calls P f args w λe w'=>∃ v H' b o,e = .returned v/\R v H' b o/\HLe H H'/\Mem N H' (lupd L i (some (b,o))) w'
def Res(P:Program)(N:Rest)(fn:Func)(F:Fr)(H:Hp)(L:Ls)(v:Value):Prop:=∀ (w:World) (tmps:Array Value),(∀ t,tmps.getD t undef=F t)->Mem N H L w->(results fn tmps).run P w = .ok v w
def rvS(tmps:Array Value)(r:ResultVar):Sem Value:=match r with
 | .tmp t=>pure (tmps.getD t undef)
 | .cell a t=>do loadVar t (<- asAddr (tmps.getD a undef))
def RV(P:Program)(N:Rest)(F:Fr)(H:Hp)(L:Ls)(r:ResultVar)(v:Value):Prop:=∀ (w:World) (tmps:Array Value),(∀ t,tmps.getD t undef=F t)->Mem N H L w->(rvS tmps r).run P w = .ok v w
section
variable{F:Fr}{H:Hp}{L:Ls}
theorem Q5_(fn:Func)(tmps:Array Value):results fn tmps=(do let vs <- fn.results.mapM (rvS tmps);pure (if h:vs.size=1 then vs[0] else .tuple vs)):=rfl
theorem rv_t{t:Tmp}{v:Value}(hv:F t=v):RV P N F H L (.tmp t) v:=λw tmps ht _=>by
 show Result.ok (tmps.getD t undef) w=_
 rw[ht,hv]
theorem res0{fn:Func}(h:fn.results = #[]):Res P N fn F H L (.tuple #[]):=λw tmps _ _=>results_none h tmps P w
theorem res1{fn:Func}{r:ResultVar}{v:Value}(h:fn.results = #[r])(hv:RV P N F H L r v):Res P N fn F H L v:=λw tmps ht hm=>by
 have :=hv w tmps ht hm
 simp[Q5_,h,this]
end
def fnK(P:Program)(N:Rest)(fn:Func)(H0:Hp)(R:Value->Hp->Ls->Prop):Qt:=λe F H L=>
 match e with
 | .normal=>∃ v,Res P N fn F H L v/\HLe H0 H/\R v H L
 | .ret=>∃ v,Res P N fn F H L v/\HLe H0 H/\R v H L
 |_=>False
theorem fnK_r{fn:Func}{H0:Hp}{R:Value->Hp->Ls->Prop}{F:Fr}{H:Hp}{L:Ls}{v:Value}(hr:Res P N fn F H L v)(hl:HLe H0 H)(h:R v H L):fnK P N fn H0 R .ret F H L:=⟨v,hr,hl,h⟩
theorem fnK_n{fn:Func}{H0:Hp}{R:Value->Hp->Ls->Prop}{F:Fr}{H:Hp}{L:Ls}{v:Value}(hr:Res P N fn F H L v)(hl:HLe H0 H)(h:R v H L):fnK P N fn H0 R .normal F H L:=⟨v,hr,hl,h⟩
def Lc_(args:Array Value):Fr:=λt=>args.toList.getD t undef
theorem At.init{args:Array Value}{m:Nat}(h:args.size<=m):At m {tmps:=args++Array.replicate (m-args.size) undef,defers:=[]} (Lc_ args):=by
 refine⟨by simp;omega,λt=>?_,rfl⟩;simp only[Lc_,AL,Array.getElem?_append,List.getD_eq_getElem?_getD,Array.getElem?_toList];grind
theorem Ih_{f:FuncId}{fn:Func}{c:Code}{args:Array Value}{H H0:Hp}{L:Ls}{R:Value->Hp->Ls->Prop}{w:World}{R':Ending->World->Prop}(hf:P.funcs[f]? = some fn)(hb:fn.body=some c)(hs:args.size<=fn.ntmps)
   (h:Cw P fn.ntmps N c (fnK P N fn H0 R) (Lc_ args) H L) (hm:Mem N H L w) (hR:∀ v H' L' w',R v H' L'->HLe H0 H'->Mem N H' L' w'->R' (.returned v) w'):Calls P f args w R':=by
 refine calls_of_wp hf hb (wp_mono (h _ w (At.init hs) hm) λe a' w' q=>?_);have⟨F',H',L',ha',hm',hq⟩:=q
 cases e with
 |normal=>have⟨v,hr,hl,hR1⟩:=hq;exact⟨ha'.defers,v,hr w' a'.tmps ha'.get hm',hR v H' L' w' hR1 hl hm'⟩
 |ret=>have⟨v,hr,hl,hR1⟩:=hq;exact⟨ha'.defers,v,hr w' a'.tmps ha'.get hm',hR v H' L' w' hR1 hl hm'⟩
 |_=>exact hq.elim
theorem Mem.inj{N:Rest}{H:Hp}{L:Ls}{w:World}(h:Mem N H L w):∀ i j (x y:Nat×Obj),L i=some x->L j=some y->x.1=y.1->i=j:=λi j x y p q e=>by
 have⟨b,o⟩:=x;have⟨b',o'⟩:=y
 cases (show b=b' from e)
 exact h.ll i j b o o' p q
theorem Mem.nBoth{N:Rest}{H:Hp}{L:Ls}{w:World}(h:Mem N H L w):∀ b o,N.heap b=some o->∀ i (x:Nat×Obj),L i=some x->x.1≠b:=λb o p i x q e=>by
 have⟨b',o'⟩:=x
 cases (show b'=b from e)
 rw[(h.nl i _ _ q).1] at p;cases p
theorem Mem.aside{N:Rest}{H:Hp}{L:Ls}{w:World}(h:Mem N H L w):Mem (N.plus L) H l0 w:=
 h.frame l0 L (λ_ _ x=>by cases x) (λi x y=>⟨i,y⟩) (λ_ _ _ _ x=>by cases x) h.inj (λ_ _ _ _ x=>by cases x)
theorem Mem.back{N:Rest}{H H':Hp}{L L':Ls}{w w':World}(h:Mem N H L w)(k:Mem (N.plus L) H' L' w'):Mem N H' L w':=
 h.unframe (λi _ y=>⟨i,y⟩) h.inj k (λi _ y=> .inr ⟨i,y⟩) h.inj h.nBoth
theorem Mem.le{N:Rest}{H H':Hp}{L:Ls}{w:World}(h:Mem N H' L w)(hl:HLe H H'):Mem N H L w:=by
 have hn:∀ b,H' b=none->H b=none:=λb x=>by
   cases q:H b with
   |none=>rfl
   |some o=>rw[hl b o q] at x;cases x
 exact⟨h.os,h.tape,h.output,h.n,λb o x=>h.h b o (hl b o x),h.l,λb o x=>hn b (h.nh b o x),λi b o x=>⟨(h.nl i b o x).1,hn b (h.nl i b o x).2⟩,h.ll⟩
theorem pr_of_cw{f:FuncId}{fn:Func}{c:Code}{args:Array Value}{H:Hp}{v:Value}(hf:P.funcs[f]? = some fn)(hb:fn.body=some c)(hs:args.size<=fn.ntmps)
   (h:∀ N,Cw P fn.ntmps N c (fnK P N fn H (λv' _ _=>v'=v)) (Lc_ args) H l0):Pr P f args H v:=
 λN L _ hm=>Ih_ hf hb hs (h (N.plus L)) hm.aside λv' _ _ _ hv hl hm'=>by
   subst hv;exact⟨rfl,(hm.back hm').le hl⟩
theorem ph_of_cw{f:FuncId}{fn:Func}{c:Code}{args:Array Value}{H:Hp}{R:Value->Hp->Prop}(hf:P.funcs[f]? = some fn)(hb:fn.body=some c)(hs:args.size<=fn.ntmps)
   (h:∀ N,Cw P fn.ntmps N c (fnK P N fn H (λv' H' _=>R v' H')) (Lc_ args) H l0):Ph P f args H R:=
 λN L _ hm=>Ih_ hf hb hs (h (N.plus L)) hm.aside λv' H' _ _ hv hl hm'=>⟨v',H',rfl,hv,hl,hm.back hm'⟩
theorem ofL1{x:Nat×Obj}{i:Nat}{y:Nat×Obj}(h:ofL [x] i=some y):i=0/\y=x:=by
 unfold ofL at h;grind
theorem X1_{L:Ls}{i j:Nat}{x:Nat×Obj}(h:lupd L i none j=some x):j≠i/\L j=some x:=by
 by_cases e:j=i
 . subst e;rw[Co_] at h;cases h
 rw[Ci_ e] at h;exact⟨e,h⟩
theorem Mem.asideBut{N:Rest}{H:Hp}{L:Ls}{w:World}{i b:Nat}{o:Obj}(h:Mem N H L w)(hi:L i=some (b,o)):Mem (N.plus (lupd L i none)) H (ofL [(b,o)]) w:=by
 refine h.frame _ _ (λj x y=>?_) (λj x y=>⟨j,(X1_ y).2⟩) (λj k x y p q _=>?_) (h.clear i).inj (λj k x y p q e=>?_);obtain⟨_,rfl⟩:=ofL1 y;exact⟨i,hi⟩;rw[(ofL1 p).1,(ofL1 q).1];obtain⟨_,rfl⟩:=ofL1 p;have⟨q1,q2⟩:=X1_ q;exact q1 (h.inj _ _ _ _ q2 hi e.symm)
theorem Mem.backWith{N:Rest}{H H':Hp}{L L':Ls}{w w':World}{i k b:Nat}{o':Obj}(h:Mem N H L w)(hk:Mem (N.plus (lupd L i none)) H' L' w')(hb:L' k=some (b,o')):Mem N H' (lupd L i (some (b,o'))) w':=by
 refine h.unframe (Lr:=lupd L i none) (λj _ y=>⟨j,(X1_ y).2⟩) (h.clear i).inj hk (λj x y=>?_) (λj j' x y p q e=>?_) (h.clear i).nBoth;by_cases e:j=i
 . subst e;rw[Co_] at y;cases y;exact .inl ⟨k,hb⟩
 rw[Ci_ e] at y;exact .inr ⟨j,by rw[Ci_ e];exact y⟩;have hn:=(hk.nl k b o' hb).1;have key:∀ m (z:Nat×Obj),m≠i->lupd L i (some (b,o')) m=some z->z.1≠b:=λm z hm hz e=>by
   rw[Ci_ hm] at hz
   have⟨zb,zo⟩:=z
   have e':zb=b:=e
   have :(N.plus (lupd L i none)).heap zb=some zo:=Rest.plus_of (h.clear i) (i:=m) (by rw[Ci_ hm];exact hz)
   grind
 by_cases e1:j=i;by_cases e2:j'=i;omega
 . subst e1;rw[Co_] at p;cases p
   grind
 by_cases e2:j'=i
 . subst e2;rw[Co_] at q;cases q
   grind
 rw[Ci_ e1] at p;rw[Ci_ e2] at q;exact h.inj _ _ _ _ p q e
theorem pm_of_cw{f:FuncId}{fn:Func}{c:Code}{args:Array Value}{H:Hp}{b:Nat}{o:Obj}{R:Value->Hp->Obj->Prop}(hf:P.funcs[f]? = some fn)(hb:fn.body=some c)(hs:args.size<=fn.ntmps)
   (h:∀ N,Cw P fn.ntmps N c (fnK P N fn H (λv' H' L'=>∃ o',L' 0=some (b,o')/\R v' H' o')) (Lc_ args) H (ofL [(b,o)])):Pm P f args H b o R:=
 λN L _ i hi hm=>Ih_ hf hb hs (h (N.plus (lupd L i none))) (hm.asideBut hi) λv' H' _ _ ⟨o',ho',hv⟩ hl hm'=>⟨v',H',o',rfl,hv,hl,hm.backWith hm' ho'⟩
theorem pn_of_cw{f:FuncId}{fn:Func}{c:Code}{args:Array Value}{H:Hp}{R:Value->Hp->Nat->Obj->Prop}(hf:P.funcs[f]? = some fn)(hb:fn.body=some c)(hs:args.size<=fn.ntmps)
   (h:∀ N,Cw P fn.ntmps N c (fnK P N fn H (λv' H' L'=>∃ k b o',L' k=some (b,o')/\R v' H' b o')) (Lc_ args) H l0):Pn P f args H R:=
 λN L _ i hm=>Ih_ hf hb hs (h (N.plus (lupd L i none))) (hm.clear i).aside λv' H' _ _ ⟨_,b,o',ho',hv⟩ hl hm'=>⟨v',H',b,o',rfl,hv,hl,hm.backWith hm' ho'⟩
def Aa_(P:Program)(f:FuncId):Prop:=∀ args w,(callFunc f args).run P w = .ok (.enter f args) w
theorem P_{f:FuncId}{fn:Func}(hf:P.funcs[f]? = some fn)(hn:(fn.name == "runtime.NumGoroutine")=false:=by exact qE)(hb:fn.body.isNone=false:=by exact qE):Aa_ P f:=λargs w=>by
 have h1:¬fn.name = "runtime.NumGoroutine" :=by simpa using hn
 have h2:¬fn.body=none:=λe=>by rw[e] at hb;cases hb
 simp[callFunc,hf,h1,h2]
def evs(F:Fr):List Operand->List Value
 |[]=>[]
 |x::r=>ev F x::evs F r
theorem evs_map(F:Fr)(l:List Operand):l.map (ev F)=evs F l:=by
 induction l with
 |nil=>rfl
 |cons x r ih=>simp[evs,ih]
def En(P:Program)(op:Op)(F:Fr)(f:FuncId)(args:Array Value):Prop:=
 ∀ (ty:TypeId) (d:Option Tmp) (pos:String) (af:Array Edge) (g:Option (Nat×Bool)) w,(execOp (ev F) ⟨d,op,ty,pos,af,g⟩).run P w = .ok (.enter f args) w
theorem en_f{F:Fr}{f:FuncId}{xs:List Operand}{vs:List Value}{ats:Array TypeId}(hc:Aa_ P f)(ha:evs F xs=vs):En P (.call ⟨.value (.func f),xs.toArray,ats⟩) F f vs.toArray:=λty d pos af g w=>by
 subst ha
 have :=hc (evs F xs).toArray w
 simp[execOp,resolve,F7,ev,invoke,evs_map,this]
variable{ops:List Oper}{op:Op}{ty:TypeId}{d:Nat}{pos:String}{af:Array Edge}{K:Fr->Hp->Ls->Prop}{F:Fr}{H:Hp}{L:Ls}{f:FuncId}{args:Array Value}
theorem op1_ph{R:Value->Hp->Prop}(h:Ph P f args H R)(he:En P op F f args)(hd:Nat.blt d n=true)(k:∀ v H',R v H'->HLe H H'->K (upd F d v) H' L):Op1 P n N ops ⟨some d,op,ty,pos,af,none⟩ K F H L:=by
 intro a w ha hm;rw[if_pos qM];unfold BJ;rw[ha.eval,he];refine (h N L w hm).mono λe w' ⟨v,H',he',hr,hl,hm'⟩=>?_;subst he';exact⟨_,_,_,ha.put qO v,hm',k v H' hr hl⟩
theorem Mem.part{N:Rest}{H H':Hp}{L:Ls}{w:World}(h:Mem N H' L w)(hl:HLe H H'):∃ N',(∀ L w,Mem N' H L w↔Mem N H' L w):=by
 classical
 refine⟨{N with heap:=λb=>if (H b).isSome then N.heap b else (H' b).or (N.heap b)},λL w=>⟨λk=>?_,λk=>?_⟩⟩
 have hn:∀ b o,N.heap b=some o->H' b=none:=h.nh;refine⟨k.os,k.tape,k.output,λb o x=>?_,λb o x=>?_,k.l,hn,λi b o x=>?_,k.ll⟩;refine k.n b o ?_;grind;by_cases q:(H b).isSome
 . have⟨y,hy⟩:=Option.isSome_iff_exists.1 q
   have :=hl b y hy;rw[x] at this;cases this;exact k.h b o hy
 refine k.n b o ?_;simp[q,x];have⟨p1,p2⟩:=k.nl i b o x;grind;refine⟨k.os,k.tape,k.output,λb o x=>?_,λb o x=>k.h b o (hl b o x),k.l,λb o x=>?_,λi b o x=>?_,k.ll⟩;by_cases q:(H b).isSome;simp only[q,if_true] at x;exact k.n b o x
 . simp only[q] at x
   cases z:H' b with
   |none=>rw[z] at x;exact k.n b o (by simpa using x)
   |some y=>rw[z] at x;simp at x;subst x;exact k.h b _ z
 by_cases q:(H b).isSome
 . simp only[q,if_true] at x
   have :=k.nh b o x
   have⟨y,hy⟩:=Option.isSome_iff_exists.1 q
   rw[hl b y hy] at this;cases this
 simpa using q
 . have⟨p1,p2⟩:=k.nl i b o x
   have :H b=none:=by
     cases q:H b with
     |none=>rfl
     |some y=>rw[hl b y q] at p2;cases p2
   simp[this,p1,p2]
theorem Pr.le{H':Hp}{v:Value}(h:Pr P f args H v)(hl:HLe H H'):Pr P f args H' v:=λN L w hm=>by
 have⟨N',hN⟩:=hm.part hl
 exact (h N' L w ((hN L w).2 hm)).mono λe w' ⟨he,hw⟩=>⟨he,(hN L w').1 hw⟩
theorem og{ops rest:List Oper}{Q:Qt}{op:Op}{ty d j:Nat}{want b:Bool}{pos:String}{af:Array Edge}{F:Fr}{H:Hp}{L:Ls}(hy:yF ops F j=some (.bool b))(hb:b=!want)(hd:Nat.blt d n=true)(k:Ow P n N ops rest Q (upd F d undef) H L):Ow P n N ops (⟨some d,op,ty,pos,af,some (j,want)⟩::rest) Q F H L:=ow1 (op1_gs hy hb hd k)
theorem oab{ops rest:List Oper}{Q:Qt}{x:Operand}{ty d:Nat}{b:Bool}{pos:String}{af:Array Edge}{F:Fr}{H:Hp}{L:Ls}(hd:Nat.blt d n=true)(hx:ev F x = .bool b)(k:Ow P n N ops rest Q (upd F d (.bool b)) H L):Ow P n N ops (⟨some d, .assign x,ty,pos,af,none⟩::rest) Q F H L:=ow1 (Iv_ hd (M0_ hx) k)
theorem omb{ops rest:List Oper}{Q:Qt}{x:Operand}{ty d:Nat}{b:Bool}{pos:String}{af:Array Edge}{F:Fr}{H:Hp}{L:Ls}(hd:Nat.blt d n=true)(hx:ev F x = .bool b)(k:Ow P n N ops rest Q (upd F d (.bool b)) H L):Ow P n N ops (⟨some d, .move x,ty,pos,af,none⟩::rest) Q F H L:=ow1 (Iv_ hd (Iu_ hx) k)
theorem oai{ops rest:List Oper}{Q:Qt}{x:Operand}{ty d:Nat}{kd:IntKind}{b:Int}{pos:String}{af:Array Edge}{F:Fr}{H:Hp}{L:Ls}(hd:Nat.blt d n=true)(hx:ev F x = .int kd b)(k:Ow P n N ops rest Q (upd F d (.int kd b)) H L):Ow P n N ops (⟨some d, .assign x,ty,pos,af,none⟩::rest) Q F H L:=ow1 (Iv_ hd (M0_ hx) k)
theorem omi{ops rest:List Oper}{Q:Qt}{x:Operand}{ty d:Nat}{kd:IntKind}{b:Int}{pos:String}{af:Array Edge}{F:Fr}{H:Hp}{L:Ls}(hd:Nat.blt d n=true)(hx:ev F x = .int kd b)(k:Ow P n N ops rest Q (upd F d (.int kd b)) H L):Ow P n N ops (⟨some d, .move x,ty,pos,af,none⟩::rest) Q F H L:=ow1 (Iv_ hd (Iu_ hx) k)
end Go.SW
namespace Go.SW
variable{P:Program}{n:Nat}{N:Rest}
def LLe(L L':Ls):Prop:=∀ i x,L i=some x->L' i=some x
theorem LLe.refl(L:Ls):LLe L L:=λ_ _ h=>h
theorem At.uniq{a:Act}{F G:Fr}(h:At n a F)(k:At n a G):F=G:=funext λt=>(h.get t).symm.trans (k.get t)
def NoQ:Exit->Act->World->Prop:=λ_ _ _=>False
def tailB(ops:List Oper)(listed:Array Bool)(i:Nat):Bool:=
 (FL ops.length).all λj=>!listed.getD j false||((ops[i]?).map λo=>o.after.any λe=>e.on==j&&CW .any e).getD false
def P3_(o:Op):Bool:=match o with
 | .load .. =>true
 | .convert .. =>true
 |_=>false
abbrev lkOf(o:Op)(Lk:Ls):Ls:=match o with
 | .load .. =>Lk
 | .convert .. =>Lk
 |_=>λ_=>none
theorem K7_{L:Ls}:LLe (λ_=>none) L:=λ_ _ h=>by cases h
theorem Q0_(o:Op)(Lk:Ls):(P3_ o=true/\lkOf o Lk=Lk)\/lkOf o Lk = λ_=>none:=by
 cases o<;>first|exact .inl ⟨rfl,rfl⟩|exact .inr Z
def tailP(ops:List Oper)(listed:Array Bool)(i:Nat):Bool:=
 (FL ops.length).all λj=>!listed.getD j false||((ops[j]?).map λo=>!P3_ o.op).getD true||((ops[i]?).map λo=>o.after.any λe=>e.on==j&&CW .any e).getD false
def Vw(P:Program)(n:Nat)(N:Rest)(ops:List Oper)(Lk:Ls)(Q:Qt):Nat->Array Bool->Fr->Hp->Ls->Prop
 |0,listed,F,H,L=>CH .any ops.toArray listed=[]/\Q .normal F H L
 |fuel+1,listed,F,H,L=>(CH .any ops.toArray listed=[]->Q .normal F H L) /\
   ∀ i∈CH .any ops.toArray listed,∀ a w,At n a F->Mem N H L w ->
     wpOp P ops.toArray NoQ i (λa' w'=>∃ F' H' L',At n a' F'/\Mem N H' L' w'/\((HLe H H'/\(LLe Lk L'\/L'=L\/tailP ops listed i=true))\/tailB ops listed i=true)/\Vw P n N ops Lk Q fuel (listed.setIfInBounds i true) F' H' L') a w
theorem wpOp_monoQ{ops:Array Oper}{i:Nat}{a:Act}{w:World}{K K':Act->World->Prop}{Q Q':Exit->Act->World->Prop}(hk:∀ a w,K a w->K' a w)(hq:∀ e a w,Q e a w->Q' e a w)(h:wpOp P ops Q i K a w):wpOp P ops Q' i K' a w:=by
 unfold wpOp at *
 split
 grind
 . rename_i o ho
   rw[ho] at h
   split
   . rename_i hw
     simp only[hw,if_true] at h
     rcases h with h|⟨h1,a1,w1,h2⟩
     exact .inl (Q8_ hk hq h)
     exact .inr ⟨h1,a1,w1,hq _ _ _ h2⟩
   grind
theorem vw_any{ops:List Oper}{Lk:Ls}{Q:Qt}:∀ (fuel:Nat) (listed:Array Bool) (F:Fr) (H:Hp) (L:Ls),Vw P n N ops Lk Q fuel listed F H L->∀ a w,At n a F->Mem N H L w->wpAny P .any ops.toArray (lift n N Q) fuel listed a w
 |0,_,F,H,L,h,_,_,ha,hm=>⟨h.1,F,H,L,ha,hm,h.2⟩
 | fuel+1,_,F,H,L,h,a,w,ha,hm=>⟨λhr=>⟨F,H,L,ha,hm,h.1 hr⟩,λi hi=>
     wpOp_monoQ (λa' w' ⟨F',H',L',x,y,_,z⟩=>vw_any fuel _ F' H' L' z a' w' x y) (λ_ _ _ x=>x.elim) (h.2 i hi a w ha hm)⟩
theorem cw_any{id:Nat}{l:List Oper}{Q:Qt}{F:Fr}{H:Hp}{L:Ls}(hmx:P.follows .mixedOrders=true)(Lk:Ls)(h:Vw P n N l Lk Q l.length (Array.replicate l.length false) F H L):Cw P n N (.region id l.toArray true) Q F H L:=
 λa w ha hm=>wp_region_any hmx (by simpa using vw_any _ _ _ _ _ h a _ ha (hm.drew (w.drawn+1)))
def Qi(P:Program)(n:Nat)(N:Rest)(ops:List Oper)(Lk:Ls)(o:Oper)(F:Fr)(H:Hp)(v:Value):Prop:=
 ∀ H' L',HLe H H'->LLe Lk L'->∀ a,At n a F->YieldsIn P ops.toArray (Mem N H' L') o v a
def putO(F:Fr)(d:Option Tmp)(v:Value):Fr:=match d with
 |some d=>upd F d v
 |none=>F
def dstB(n:Nat)(o:Oper):Bool:=match o.dst with
 |some d=>Nat.blt d n
 |none=>true
theorem At.putO{a:Act}{F:Fr}(h:At n a F){o:Oper}(hd:dstB n o=true)(v:Value):At n (a.put o.dst v) (putO F o.dst v):=by
 unfold dstB at hd
 cases e:o.dst with
 |none=>exact h
 |some d=>rw[e] at hd;exact h.put qO v
def apB(n:Nat)(ops:List Oper)(listed:Array Bool)(i:Nat)(oi:Oper):Bool:=
 (FL ops.length).all λj=>j==i||listed.getD j true ||
   match ops[j]? with
   |none=>true
   |some oj=>oj.after.any (λe=>e.on==i&&CW .any e)||(oi.apart ops.toArray oj&&dstB n oj&&(match oj.op with| .select .. =>false|_=>true))
theorem apB_spec{ops:List Oper}{listed:Array Bool}{i:Nat}{oi:Oper}(h:apB n ops listed i oi=true){j:Nat}{oj:Oper}(hj:ops[j]? = some oj)(hji:j≠i)(hl:listed.getD j true=false)
   (hw:∀ e∈oj.after,Region.binds .any e=true->e.on≠i):oi.apart ops.toArray oj=true/\dstB n oj=true/\∀ cs b,oj.op ≠ .select cs b:=by
 unfold apB at h;grind
theorem wpOp_shift{ops:Array Oper}{j:Nat}{oi oj:Oper}{v:Value}(hj:ops[j]? = some oj)(hap:oi.apart ops oj=true)(hsj:∀ cs b,oj.op ≠ .select cs b)
   {K K':Act->World->Prop} {a:Act} {w:World} (hK:∀ u w',K ((a.put oj.dst u).put oi.dst v) w'->K' (a.put oj.dst u) w')
   (hd:∀ d u w',¬K ({a.put oi.dst v with defers:=d}.put oj.dst u) w'\/d=(a.put oi.dst v).defers)
   (h:wpOp P ops NoQ j K (a.put oi.dst v) w):wpOp P ops NoQ j K' a w:=by
 have⟨h1,h2,h3⟩:=E3 hap;unfold wpOp at *;simp only[hj] at *;rw[wanted_put oj a oi.dst v h1] at h
 split
 . rename_i hw
   simp only[hw,if_true] at h
   rcases h with h|⟨_,a1,w1,hlets⟩
   case inr=>exact hlets.elim
   refine .inl ?_
   unfold BJ at *
   rw[execOp_put oj hsj a oi.dst v h1] at h
   generalize (execOp a.eval oj).run P w=r at *
   cases r with
   |ok m w'=>
     cases m<;>simp only[DU] at h ⊢
     case value u=>exact hK u w' (by rw[<- Act.put_comm a v u h2];exact h)
     case skip=>exact hK _ w' nH
     case defer d=>
       rcases hd (d::(a.put oi.dst v).defers) undef w' with q|q
       . exact absurd h q
       . exact absurd q nC
     case enter f args=>
       refine GS h λe w'' he=>?_
       cases e with
       |returned u=>exact hK u w'' oV
       |panicked c=>exact he.elim
       |outgrown=>have⟨_,_,q⟩:=he;exact q.elim
     case row row args=>exact H3 h λu w'' he=>hK u w'' oV
   |halt x w'=>
     cases x<;>simp only[DU] at h ⊢
     case panic u=>exact h
 . rename_i hw
   simp only[hw] at h
   exact hK _ w nH
theorem qi_keep{ops:List Oper}{Lk:Ls}{oi oj:Oper}{F F':Fr}{H H':Hp}{v u:Value}{a:Act}(hsi:∀ cs b,oi.op ≠ .select cs b)(hap:oi.apart ops.toArray oj=true)(hd:dstB n oj=true)(h:Qi P n N ops Lk oi F H v)(hl:HLe H H')(ha:At n a F)
   (ha':At n (a.put oj.dst u) F'):Qi P n N ops Lk oi F' H' v:=by
 have⟨h1,h2,h3⟩:=E3 hap;intro H2 L2 hh hL a2 ha2;have hy:=h H2 L2 (hl.trans hh) hL a ha;have he:a2.eval=(a.put oj.dst u).eval:=by rw[ha2.eval,ha'.eval]
 have ht:∀ t,a2.tmps.getD t undef=(a.put oj.dst u).tmps.getD t undef:=λt=>(ha2.get t).trans (ha'.get t).symm;have hs:a2.tmps.size=(a.put oj.dst u).tmps.size:=ha2.size.trans ha'.size.symm;have hg:∀ t:Nat,a2.tmps[t]? = (a.put oj.dst u).tmps[t]? :=λt=>by
   have q:=ht t
   simp only[AL] at q
   grind
 have hyd:yielded ops.toArray a2.tmps=yielded ops.toArray (a.put oj.dst u).tmps:=by
   funext j
   unfold yielded
   grind
 refine hy.of_same ?_ ?_;rw[he];exact execOp_put oi hsi a oj.dst u h3;rw[hyd];exact wanted_put oi a oj.dst u h3
theorem Y1_{ops:List Oper}{C:World->Prop}{i:Nat}{oi:Oper}{v:Value}{a:Act}{w:World}{K:Act->World->Prop}(hi:ops[i]? = some oi)(hw:C w)(hy:YieldsIn P ops.toArray C oi v a)(h:∀ w',C w'->K (a.put oi.dst v) w'):wpOp P ops.toArray NoQ i K a w:=by
 have hi':ops.toArray[i]? = some oi:=by simpa using hi
 unfold wpOp;simp only[hi']
 rcases hy with ⟨h1,h2⟩|⟨h1,rfl⟩
 . simp only[h1,if_true]
   left
   have h3:=h2 w hw
   unfold Oper.quietAt at h3
   unfold BJ
   generalize (execOp a.eval oi).run P w=r at *
   cases r with
   |ok m w'=>
     cases m<;>simp only[G1] at h3<;>simp only[DU]
     case value u=>have⟨e1,e2⟩:=h3;rw[e1,e2];exact h _ hw
     case skip=>have⟨e1,e2⟩:=h3;rw[e1,<- e2];exact h _ hw
     case enter f args=>
       have⟨e1,hc⟩:=h3
       rw[e1]
       exact hc.mono λe w'' ⟨he,hw''⟩=>by subst he;exact h _ hw''
   |halt x w'=>simp only[G1] at h3
 grind
theorem Q9_{ops:List Oper}{Lk:Ls}(Lq:Ls){Q:Qt}{i:Nat}{oi:Oper}{v:Value}(hi:ops[i]? = some oi)(hsi:∀ cs b,oi.op ≠ .select cs b)(hdi:dstB n oi=true)(hLq:(P3_ oi.op=true/\Lq=Lk)\/Lq = λ_=>none) :
   ∀ (fuel:Nat) (listed:Array Bool) (F:Fr) (H:Hp) (L:Ls),apB n ops listed i oi=true->i∈Region.ready .any ops.toArray listed->LLe Lq L->Qi P n N ops Lq oi F H v ->
     Vw P n N ops Lk Q fuel (listed.setIfInBounds i true) (putO F oi.dst v) H L->Vw P n N ops Lk Q (fuel+1) listed F H L:=by
 intro fuel;have hi':ops.toArray[i]? = some oi:=by simpa using hi
 induction fuel with
 |zero=>
   intro listed F H L hap hr hL hq hv
   refine⟨λh=>(by rw[h] at hr;cases hr),λj hj a w ha hm=>?_⟩
   by_cases hji:j=i
   . exact rB
   . have⟨h0,oj,hoj,hwt⟩:=mem_ready.1 hj
     have :j∈CH .any ops.toArray (listed.setIfInBounds i true):=mem_ready.2 ⟨by rw[getD_set_ne _ (λe=>hji e.symm)];exact h0,oj,hoj,λe he hb=>getD_set_true (hwt e he hb)⟩
     rw[hv.1] at this;cases this
 |succ fuel ih=>
   intro listed F H L hap hr hL hq hv
   refine⟨λh=>(by rw[h] at hr;cases hr),λj hj a w ha hm=>?_⟩
   by_cases hji:j=i
   . exact rB
   . have⟨h0,oj,hoj,hwt⟩:=mem_ready.1 hj
     have hjr:j∈CH .any ops.toArray (listed.setIfInBounds i true):=mem_ready.2 ⟨by rw[getD_set_ne _ (λe=>hji e.symm)];exact h0,oj,hoj,λe he hb=>getD_set_true (hwt e he hb)⟩
     have hil:listed.getD i true=false:=(mem_ready.1 hr).1
     have hni:∀ e∈oj.after,CW .any e=true->e.on≠i:=λe he hb q=>by
       have h1:=hwt e he hb
       rw[q] at h1
       have hlt:i<listed.size:=by
         by_cases z:i<listed.size
         . exact z
         . simp[AL,D2 (DY z)] at hil
       simp[AL,Array.getElem?_eq_getElem hlt] at hil h1
       rw[h1] at hil;cases hil
     have hoj':ops[j]? = some oj:=by simpa using hoj
     have⟨ap,hdj,hsj⟩:=apB_spec hap hoj' hji h0 hni
     have⟨p1,p2,p3⟩:=E3 ap
     have hstep:=hv.2 j hjr (a.put oi.dst v) w (ha.putO hdi v) hm
     refine wpOp_shift hoj ap hsj (λu w' hK=>?_) (λd u w'=>?_) hstep
     . have⟨F1,H1,L1,hA,hM,hS,hV⟩:=hK
       have hset:(listed.setIfInBounds i true).getD i false=true:=by
         have hlt:i<listed.size:=by
           by_cases z:i<listed.size
           . exact z
           . simp[AL,D2 (DY z)] at hil
         simp[AL,hlt]
       have hwt2:∀ l:Bool,(l=((ops[j]?).map λo=>o.after.any λe=>e.on==i&&CW .any e).getD false)->l=true->False:=by
         intro l hl h
         rw[hl,hoj'] at h
         simp only[BT,DO,Array.any_eq_true,A5,beq_iff_eq] at h
         have⟨k,hk,e1,e2⟩:=h
         exact hni _ (Array.getElem_mem hk) e2 e1
       have hlt0:i<ops.length:=(List.getElem?_eq_some_iff.1 hi).1
       have hS0:HLe H H1/\(LLe Lk L1\/L1=L\/tailP ops (listed.setIfInBounds i true) j=true):=hS.resolve_right λht=>by
         unfold tailB at ht
         have :=List.all_eq_true.1 ht i (List.mem_range.2 hlt0)
         rw[hset] at this
         exact hwt2 _ Z (by simpa using this)
       have hS1:LLe Lq L1:=by
         rcases hLq with ⟨hm1,rfl⟩|rfl
         . rcases hS0.2 with h|rfl|h
           . exact h
           . exact hL
           . exfalso
             unfold tailP at h
             have :=List.all_eq_true.1 h i (List.mem_range.2 hlt0)
             rw[hset,hi] at this
             simp only[BT,DO,hm1] at this
             exact hwt2 _ Z (by simpa using this)
         . exact K7_
       have hS2:LLe Lk L1\/L1=L\/tailP ops listed j=true:=by
         rcases hS0.2 with h|h|h
         . exact .inl h
         . exact .inr (.inl h)
         . refine .inr (.inr ?_)
           unfold tailP at *
           refine List.all_eq_true.2 λm hm'=>?_
           have h1:=List.all_eq_true.1 h m hm'
           by_cases e:m=i
           . grind
           . have :(listed.setIfInBounds i true).getD m false=listed.getD m false:=by
               simp[AL,DX,Ne.symm e]
             rw[this] at h1;exact h1
       have hS':HLe H H1/\LLe Lq L1:=⟨hS0.1,hS1⟩
       have hX:True:=by
         trivial
       have hY:True:=by
         trivial
       have hA':At n (a.put oj.dst u) (putO F oj.dst u):=ha.putO hdj u
       have hF:F1=putO (putO F oj.dst u) oi.dst v:=hA.uniq (hA'.putO hdi v)
       refine⟨putO F oj.dst u,H1,L1,hA',hM, .inl ⟨hS0.1,hS2⟩,?_⟩
       have hc:(listed.setIfInBounds i true).setIfInBounds j true=(listed.setIfInBounds j true).setIfInBounds i true:=Array.setIfInBounds_comm _ _ (λe=>hji e.symm)
       rw[hc,hF] at hV
       refine ih _ _ _ _ ?_ ?_ hS'.2 (qi_keep hsi ap hdj hq hS'.1 ha hA') hV
       . unfold apB at *
         refine List.all_eq_true.2 λm hm'=>?_
         have :=List.all_eq_true.1 hap m hm'
         by_cases e:j=m
         . subst e
           have hset:(listed.setIfInBounds j true).getD j true=true:=by
             by_cases z:j<listed.size
             . simp[AL,z]
             . simp[AL,D2 (DY z)]
           simp[hset]
         . rw[getD_set_ne _ e];exact this
       . have⟨q0,q1,q2,q3⟩:=mem_ready.1 hr
         exact mem_ready.2 ⟨by rw[getD_set_ne _ hji];exact q0,q1,q2,λe he hb=>getD_set_true (q3 e he hb)⟩
     . by_cases e:d=(a.put oi.dst v).defers
       . exact .inr e
       . left
         rintro⟨F1,H1,L1,hA,_⟩
         have h1:=hA.defers
         have h2:=(ha.putO hdi v).defers
         have h3:({a.put oi.dst v with defers:=d}.put oj.dst u).defers=d:=by cases oj.dst<;>rfl
         rw[h3] at h1
         exact e (h1.trans h2.symm)
def rdB(ops:List Oper)(listed:Array Bool)(i:Nat):Bool:=(CH .any ops.toArray listed).contains i
section
variable{ops:List Oper}{Lk:Ls}{Q:Qt}{fuel i d:Nat}{op:Op}{ty:TypeId}{pos:String}{af:Array Edge}{v:Value}{listed:Array Bool}{F:Fr}{H:Hp}{L:Ls}
theorem vw_done(h:Region.ready .any ops.toArray listed=[])(k:Q .normal F H L):Vw P n N ops Lk Q fuel listed F H L:=by
 cases fuel with
 |zero=>exact⟨h,k⟩
 |succ fuel=>exact⟨λ_=>k,λi hi=>by rw[h] at hi;cases hi⟩
def nosB(op:Op):Bool:=match op with| .select .. =>false|_=>true
theorem On_{op:Op}(h:nosB op=true):∀ cs b,op ≠ .select cs b:=λcs b e=>by subst e;cases h
theorem vw_q(i:Nat)(hi:ops[i]? = some ⟨some d,op,ty,pos,af,none⟩)
   (h:∀ H' L',HLe H H'->LLe (lkOf op Lk) L'->Lo P N op ty F H' L' v) (k:Vw P n N ops Lk Q fuel (listed.setIfInBounds i true) (upd F d v) H L)(hck:(rdB ops listed i&&apB n ops listed i ⟨some d,op,ty,pos,af,none⟩&&Nat.blt d n&&nosB op)=true:=by exact qE)(hL:LLe (lkOf op Lk) L:=by exact qR):Vw P n N ops Lk Q (fuel+1) listed F H L:=by
 simp only[A5] at hck;have⟨⟨⟨h1,h2⟩,h3⟩,h4⟩:=hck;refine Q9_ (lkOf op Lk) hi (On_ h4) h3 (Q0_ op Lk) fuel listed F H L h2 pK hL ?_ k;intro H' L' hh hl a ha;refine .inl ⟨by simp[C2],λw hw=>?_⟩;exact rD
theorem vw_qc{f:FuncId}{args:Array Value}(i:Nat)(hi:ops[i]? = some ⟨some d,op,ty,pos,af,none⟩)(hck:(rdB ops listed i&&apB n ops listed i ⟨some d,op,ty,pos,af,none⟩&&Nat.blt d n&&nosB op)=true)(hL:LLe (λ_=>none) L)
   (h:Pr P f args H v) (he:En P op F f args) (k:Vw P n N ops Lk Q fuel (listed.setIfInBounds i true) (upd F d v) H L):Vw P n N ops Lk Q (fuel+1) listed F H L:=by
 simp only[A5] at hck;have⟨⟨⟨h1,h2⟩,h3⟩,h4⟩:=hck;refine Q9_ (λ_=>none) hi (On_ h4) h3 (.inr Z) fuel listed F H L h2 pK hL ?_ k;intro H' L' hh hl a ha;refine .inl ⟨by simp[C2],λw hw=>?_⟩;exact rE
theorem vw_qg{j:Nat}{want b:Bool}(i:Nat)(hi:ops[i]? = some ⟨some d,op,ty,pos,af,some (j,want)⟩)(hck:(rdB ops listed i&&apB n ops listed i ⟨some d,op,ty,pos,af,some (j,want)⟩&&Nat.blt d n&&nosB op)=true)(hL:LLe (lkOf op Lk) L)
   (hy:yF ops F j=some (.bool b)) (hb:b=want) (h:∀ H' L',HLe H H'->LLe (lkOf op Lk) L'->Lo P N op ty F H' L' v) (k:Vw P n N ops Lk Q fuel (listed.setIfInBounds i true) (upd F d v) H L):Vw P n N ops Lk Q (fuel+1) listed F H L:=by
 simp only[A5] at hck;have⟨⟨⟨h1,h2⟩,h3⟩,h4⟩:=hck;refine Q9_ (lkOf op Lk) hi (On_ h4) h3 (Q0_ op Lk) fuel listed F H L h2 pK hL ?_ k;intro H' L' hh hl a ha;refine .inl ⟨by simp[C2,Ll_ ha hy,hb],λw hw=>?_⟩;exact rD
theorem vw_qgc{j:Nat}{want b:Bool}{f:FuncId}{args:Array Value}(i:Nat)(hi:ops[i]? = some ⟨some d,op,ty,pos,af,some (j,want)⟩)(hck:(rdB ops listed i&&apB n ops listed i ⟨some d,op,ty,pos,af,some (j,want)⟩&&Nat.blt d n&&nosB op)=true)(hL:LLe (λ_=>none) L)
   (hy:yF ops F j=some (.bool b)) (hb:b=want) (h:Pr P f args H v) (he:En P op F f args) (k:Vw P n N ops Lk Q fuel (listed.setIfInBounds i true) (upd F d v) H L):Vw P n N ops Lk Q (fuel+1) listed F H L:=by
 simp only[A5] at hck;have⟨⟨⟨h1,h2⟩,h3⟩,h4⟩:=hck;refine Q9_ (λ_=>none) hi (On_ h4) h3 (.inr Z) fuel listed F H L h2 pK hL ?_ k;intro H' L' hh hl a ha;refine .inl ⟨by simp[C2,Ll_ ha hy,hb],λw hw=>?_⟩;exact rE
theorem vw_qgs{j:Nat}{want b:Bool}(i:Nat)(hi:ops[i]? = some ⟨some d,op,ty,pos,af,some (j,want)⟩)(hck:(rdB ops listed i&&apB n ops listed i ⟨some d,op,ty,pos,af,some (j,want)⟩&&Nat.blt d n&&nosB op)=true)(hL:LLe (λ_=>none) L)
   (hy:yF ops F j=some (.bool b)) (hb:b=!want) (k:Vw P n N ops Lk Q fuel (listed.setIfInBounds i true) (upd F d undef) H L):Vw P n N ops Lk Q (fuel+1) listed F H L:=by
 simp only[A5] at hck;have⟨⟨⟨h1,h2⟩,h3⟩,h4⟩:=hck;refine Q9_ (λ_=>none) hi (On_ h4) h3 (.inr Z) fuel listed F H L h2 pK hL ?_ k;intro H' L' hh hl a ha;exact .inr ⟨by simp[C2,Ll_ ha hy,hb],rfl⟩
theorem vw_qgx{j:Nat}{want:Bool}(i:Nat)(hi:ops[i]? = some ⟨some d,op,ty,pos,af,some (j,want)⟩)(hck:(rdB ops listed i&&apB n ops listed i ⟨some d,op,ty,pos,af,some (j,want)⟩&&Nat.blt d n&&nosB op)=true)(hL:LLe (λ_=>none) L)
   (hy:yF ops F j=some undef) (k:Vw P n N ops Lk Q fuel (listed.setIfInBounds i true) (upd F d undef) H L):Vw P n N ops Lk Q (fuel+1) listed F H L:=by
 simp only[A5] at hck;have⟨⟨⟨h1,h2⟩,h3⟩,h4⟩:=hck;refine Q9_ (λ_=>none) hi (On_ h4) h3 (.inr Z) fuel listed F H L h2 pK hL ?_ k;intro H' L' hh hl a ha;exact .inr ⟨by simp[C2,yielded_undef ha hy],rfl⟩
theorem V5_{o:Oper}{K:Fr->Hp->Ls->Prop}(ho:ops[i]? = some o)(h:Op1 P n N ops o K F H L)(a:Act)(w:World)(ha:At n a F)(hm:Mem N H L w):wpOp P ops.toArray NoQ i (λa' w'=>∃ F' H' L',At n a' F'/\Mem N H' L' w'/\K F' H' L') a w:=by
 have :=h a w ha hm;have ho':ops.toArray[i]? = some o:=by simpa using ho
 unfold wpOp;simp only[ho']
 split
 . rename_i hw;rw[if_pos hw] at this;exact .inl this
 grind
theorem vw_e{o:Oper}(i:Nat)(ho:ops[i]? = some o)(hr:Region.ready .any ops.toArray listed=[i])(h:Op1 P n N ops o (λF' H' L'=>(HLe H H'/\LLe Lk L')/\Vw P n N ops Lk Q fuel (listed.setIfInBounds i true) F' H' L') F H L):Vw P n N ops Lk Q (fuel+1) listed F H L:=by
 refine⟨λq=>oC,λj hj a w ha hm=>?_⟩;rw[hr] at hj;obtain rfl :j=i:=by simpa using hj
 exact wpOp_mono (λa' w' ⟨F',H',L',x,y,z1,z2⟩=>⟨F',H',L',x,y, .inl ⟨z1.1, .inl z1.2⟩,z2⟩) (V5_ ho h a w ha hm)
theorem vw_t{o:Oper}(i:Nat)(ho:ops[i]? = some o)(hr:Region.ready .any ops.toArray listed=[i])(ht:tailB ops listed i=true)(h:Op1 P n N ops o (λF' H' L'=>Vw P n N ops Lk Q fuel (listed.setIfInBounds i true) F' H' L') F H L):Vw P n N ops Lk Q (fuel+1) listed F H L:=by
 refine⟨λq=>oC,λj hj a w ha hm=>?_⟩;rw[hr] at hj;obtain rfl :j=i:=by simpa using hj
 exact wpOp_mono (λa' w' ⟨F',H',L',x,y,z2⟩=>⟨F',H',L',x,y, .inr ht,z2⟩) (V5_ ho h a w ha hm)
theorem vw_tp{o:Oper}(i:Nat)(ho:ops[i]? = some o)(hr:Region.ready .any ops.toArray listed=[i])(ht:tailP ops listed i=true)(h:Op1 P n N ops o (λF' H' L'=>HLe H H'/\Vw P n N ops Lk Q fuel (listed.setIfInBounds i true) F' H' L') F H L):Vw P n N ops Lk Q (fuel+1) listed F H L:=by
 refine⟨λq=>oC,λj hj a w ha hm=>?_⟩;rw[hr] at hj;obtain rfl :j=i:=by simpa using hj
 exact wpOp_mono (λa' w' ⟨F',H',L',x,y,z1,z2⟩=>⟨F',H',L',x,y, .inl ⟨z1, .inr (.inr ht)⟩,z2⟩) (V5_ ho h a w ha hm)
end
variable{F:Fr}{H:Hp}{L:Ls}{ty T T':TypeId}{x y z:Operand}
abbrev Bs:=List UInt8
def str(l:Bs):Value:= .string ⟨l.toArray⟩
theorem Pp_(l:Bs):(⟨l.toArray⟩:ByteArray).toList=l:=by rw[Lib.toList_data]
theorem Ko_(l:Bs):(⟨l.toArray⟩:ByteArray).size=l.length:=by simp[ByteArray.size]
theorem ba_append(a b:Bs):(⟨a.toArray⟩:ByteArray)++⟨b.toArray⟩=⟨(a++b).toArray⟩:=by
 apply ByteArray.ext
 simp
theorem N6_(l:Bs)(i j:Nat):(⟨l.toArray⟩:ByteArray).extract i j=⟨((l.drop i).take (j-i)).toArray⟩:=by
 rw[Lib.extract_eq]
theorem ba_get(l:Bs)(i:Nat):(⟨l.toArray⟩:ByteArray)[i]? = l[i]? :=by
 by_cases h:i<l.length;have h':i<(⟨l.toArray⟩:ByteArray).size:=by rw[Ko_];exact h
 rw[getElem?_pos _ i h',getElem?_pos _ i h];rfl;have h':¬i<(⟨l.toArray⟩:ByteArray).size:=by rw[Ko_];exact h
 grind
theorem str_of(s:ByteArray):Value.string s=str s.data.toList:=by
 unfold str;rw[Lib.mk_data]
variable{a b:Bs}
theorem lo_cat(hx:ev F x=str a)(hy:ev F y=str b)(hb:a.length+b.length<=9223372036854775807):Lo P N (.binOp .add T x y T') ty F H L (str (a++b)):=
 Hn_ hx hy (λw=>Oy_ w) λw=>by
   have h:¬(((a.length+b.length:Nat):Int)>IntKind.i64.max):=by simp[DN,AC,D5];omega
   unfold str
   simp only[binOp,E5,Ko_,h,if_false,ba_append]
   rfl
theorem Xs_(a b:Bs):(a==b) = decide (a=b):=by rw[Bool.eq_iff_iff];simp
theorem lo_seql(hx:ev F x=str a)(hy:ev F y=str b):Lo P N (.binOp .eql T x y T') ty F H L (.bool (decide (a=b))):=
 Hn_ hx hy (λw=>Oy_ w) λw=>by unfold str;simp only[binOp,E5,Pp_,Xs_];rfl
theorem lo_sneq(hx:ev F x=str a)(hy:ev F y=str b):Lo P N (.binOp .neq T x y T') ty F H L (.bool (!decide (a=b))):=
 Hn_ hx hy (λw=>Oy_ w) λw=>by unfold str;simp only[binOp,E5,Pp_,Xs_];rfl
theorem lo_slss(hx:ev F x=str a)(hy:ev F y=str b):Lo P N (.binOp .lss T x y T') ty F H L (.bool (Op.bytesLess a b)):=
 Hn_ hx hy (λw=>Oy_ w) λw=>by unfold str;simp only[binOp,E5,Pp_];rfl
theorem Gd_{bi:Builtin}{cargs:Array Operand}{args:Array Value}{ats:Array TypeId}{d:Option Tmp}{pos:String}{af:Array Edge}{g:Option (Nat×Bool)}{w w':World}{r:Next}
   (ha:cargs.map (ev F)=args) (h:∀ cs,(builtin bi ats ty cs args).run P w = .ok r w') :
   (execOp (ev F) ⟨d, .call ⟨.builtin bi,cargs,ats⟩,ty,pos,af,g⟩).run P w = .ok r w':=by
 subst ha;simp only[execOp,resolve,bind,Sem.bind,pure,invoke];exact h _
theorem lo_len_str(hx:ev F x=str a)(hT:P.underlying T=some .string):Lo P N (.call ⟨.builtin .len,#[x],#[T]⟩) ty F H L (.int .i64 a.length):=λd pos af g w _=>by
 refine Gd_ (args:=#[str a]) pC λcs=>?_
 simp[builtin,FY,str,run_underlying hT,Ko_,goInt]
theorem Tm_{sa:Option Addr}{l c:Nat}{e:TypeId}(hx:ev F x = .slice sa l c)(hT:P.underlying T=some (.slice e)):Lo P N (.call ⟨.builtin .len,#[x],#[T]⟩) ty F H L (.int .i64 l):=λd pos af g w _=>by
 refine Gd_ (args:=#[.slice sa l c]) pC λcs=>?_
 simp[builtin,FY,run_underlying hT,goInt]
theorem lo_min{k:IntKind}{p q:Int}{ats:Array TypeId}(hx:ev F x = .int k p)(hy:ev F y = .int k q):Lo P N (.call ⟨.builtin .min,#[x,y],ats⟩) ty F H L (.int k (min p q)):=λd pos af g w _=>by
 refine Gd_ (args:=#[.int k p, .int k q]) pM λcs=>?_
 have :(if q<p then q else p)=min p q:=by omega
 simp[builtin,Builtin.min_,Builtin.min2,this]
theorem lo_max{k:IntKind}{p q:Int}{ats:Array TypeId}(hx:ev F x = .int k p)(hy:ev F y = .int k q):Lo P N (.call ⟨.builtin .max,#[x,y],ats⟩) ty F H L (.int k (max p q)):=λd pos af g w _=>by
 refine Gd_ (args:=#[.int k p, .int k q]) pM λcs=>?_
 have :(if q>p then q else p)=max p q:=by omega
 simp[builtin,FZ,ED,this]
theorem lo_index_str{k:IntKind}{i:Int}(m:Nat)(hx:ev F x=str a)(hy:ev F y = .int k i)(hT:P.underlying T=some .string)(hi:i=(m:Int))(h1:m<a.length):Lo P N (.index T x y) ty F H L (.int .u8 (a.getD m 0).toNat):=λd pos af g w _=>by
 subst hi
 simp[execOp,Instr.index,hx,hy,str,asIntOf,run_underlying hT,ba_get,AA h1]
theorem lo_slice_str{k k':IntKind}{i j:Int}{lo hi:Operand}(m q:Nat)(hx:ev F x=str a)(hlo:ev F lo = .int k i)(hhi:ev F hi = .int k' j)(hT:P.underlying T=some .string)(h0:i=(m:Int))(hq:j=(q:Int))(h1:m<=q)(h2:q<=a.length) :
   Lo P N (.slice T x (some lo) (some hi) none) ty F H L (str ((a.drop m).take (q-m))):=λd pos af g w _=>by
 subst h0;subst hq
 simp[execOp,CB,CN,BV,C0,hx,hlo,hhi,str,run_underlying hT,asIntOf,Ko_,h1,h2,N6_]
theorem Xx_{k:IntKind}{i:Int}{lo:Operand}(m:Nat)(hx:ev F x=str a)(hlo:ev F lo = .int k i)(hT:P.underlying T=some .string)(h0:i=(m:Int))(h2:m<=a.length) :
   Lo P N (.slice T x (some lo) none none) ty F H L (str (a.drop m)):=λd pos af g w _=>by
 subst h0
 have e3:(a.drop m).take (a.length-m)=a.drop m:=by rw[AD];simp
 simp[execOp,CB,CN,BV,C0,hx,hlo,str,run_underlying hT,asIntOf,Ko_,h2,N6_,e3]
theorem Xw_{k':IntKind}{j:Int}{hi:Operand}(q:Nat)(hx:ev F x=str a)(hhi:ev F hi = .int k' j)(hT:P.underlying T=some .string)(h0:j=(q:Int))(h2:q<=a.length) :
   Lo P N (.slice T x none (some hi) none) ty F H L (str (a.take q)):=λd pos af g w _=>by
 subst h0
 simp[execOp,CB,CN,BV,C0,hx,hhi,str,run_underlying hT,asIntOf,Ko_,h2,N6_]
theorem lo_not{p:Bool}(hx:ev F x = .bool p):Lo P N (.unOp .not T x) ty F H L (.bool (!p)):=λd pos af g w _=>by simp[execOp,hx,Op.unary]
theorem U6_(d:Nat){p q:Bool}(hT:P.underlying T=some .bool)(w:World):(Op.equalIn (d+1) T (.bool p) (.bool q)).run P w = .ok (p==q) w:=by
 simp[D7,run_underlying hT]
theorem U7_(d:Nat){p:Addr}{e:TypeId}(hT:P.underlying T=some (.pointer e))(w:World):(Op.equalIn (d+1) T (.pointer (some p)) (.pointer none)).run P w = .ok false w:=by
 simp[D7,run_underlying hT]
theorem Oz_{v u:Value}{r:Bool}{w:World}(h:∀ d,(Op.equalIn (d+1) T v u).run P w = .ok r w):(Op.equal T v u).run P w = .ok r w:=h 9999
theorem lo_beql{p q:Bool}(hx:ev F x = .bool p)(hy:ev F y = .bool q)(hT:P.underlying T=some .bool):Lo P N (.binOp .eql T x y T') ty F H L (.bool (p==q)):=
 Hn_ hx hy (λw=>U5_ w) λw=>by simp[binOp,Oz_ (λd=>U6_ d hT w)]
theorem lo_bneq{p q:Bool}(hx:ev F x = .bool p)(hy:ev F y = .bool q)(hT:P.underlying T=some .bool):Lo P N (.binOp .neq T x y T') ty F H L (.bool (!(p==q))):=
 Hn_ hx hy (λw=>U5_ w) λw=>by simp[binOp,Oz_ (λd=>U6_ d hT w)]
theorem lo_conv{k k':IntKind}{i:Int}(hx:ev F x = .int k' i)(hs:(P.underlying T).isSome=true)(hd:P.underlying T'=some (.int k)):Lo P N (.convert T T' x) ty F H L (.int k (k.wrap i)):=λd pos af g w _=>by
 have⟨ds,hs'⟩:=Option.isSome_iff_exists.1 hs
 simp[execOp,hx,convert,run_underlying hs',run_underlying hd,Conv.intToInt]
theorem Zx_{k k':IntKind}{i:Int}(hx:ev F x = .int k' i)(hs:(P.underlying T).isSome=true)(hd:P.underlying T'=some (.int k))(hi:k.min<=i/\i<=k.max):Lo P N (.convert T T' x) ty F H L (.int k i):=by
 have :=lo_conv (P:=P) (N:=N) (F:=F) (H:=H) (L:=L) (ty:=ty) hx hs hd
 rwa [Qm_ hi] at this
theorem lo_conv_str(hx:ev F x=str a)(hs:P.underlying T=some .string)(hd:P.underlying T'=some .string):Lo P N (.convert T T' x) ty F H L (str a):=λd pos af g w _=>by
 simp[execOp,hx,str,convert,run_underlying hs,run_underlying hd]
theorem lo_sub{k:IntKind}{p q:Int}(hx:ev F x = .int k p)(hy:ev F y = .int k q)(h:k.min<=p-q/\p-q<=k.max):Lo P N (.binOp .sub T x y T') ty F H L (.int k (p-q)):=by
 have :=lo_sub_w (P:=P) (N:=N) (H:=H) (L:=L) (ty:=ty) (T:=T) (T':=T') hx hy
 rwa [Qm_ h] at this
theorem lo_mul{k:IntKind}{p q:Int}(hx:ev F x = .int k p)(hy:ev F y = .int k q)(h:k.min<=p*q/\p*q<=k.max):Lo P N (.binOp .mul T x y T') ty F H L (.int k (p*q)):=by
 have :=lo_mul_w (P:=P) (N:=N) (H:=H) (L:=L) (ty:=ty) (T:=T) (T':=T') hx hy
 rwa [Qm_ h] at this
theorem lo_quo{k:IntKind}{p q:Int}(hx:ev F x = .int k p)(hy:ev F y = .int k q)(h0:0<=p)(h1:p<=k.max)(hq:0<q):Lo P N (.binOp .quo T x y T') ty F H L (.int k (p/q)):=
 Hn_ hx hy (λw=>E2_ w) λw=>by
   have e:q≠0:=by omega
   have e1:p.tdiv q=p/q:=Int.tdiv_eq_ediv_of_nonneg h0
   have e2:0<=p/q:=E6 h0 qD
   have e3:p/q<=p:=DZ q h0
   have e4:k.min<=0:=by cases k<;>decide
   simp[binOp,Op.intDiv,e,e1,Qm_ (k:=k) (z:=p/q) ⟨by omega,by omega⟩]
theorem lo_rem{k:IntKind}{p q:Int}(hx:ev F x = .int k p)(hy:ev F y = .int k q)(h0:0<=p)(hq:0<q):Lo P N (.binOp .rem T x y T') ty F H L (.int k (p%q)):=
 Hn_ hx hy (λw=>E2_ w) λw=>by
   have e:q≠0:=by omega
   have e1:p.tmod q=p%q:=Int.tmod_eq_emod_of_nonneg h0
   simp[binOp,Op.intDiv,e,e1]
theorem lo_shl{k k':IntKind}{p q:Int}(hx:ev F x = .int k p)(hy:ev F y = .int k' q)(h0:0<=q):Lo P N (.binOp .shl T x y T') ty F H L (.int k (k.wrap (p*2 ^ (min q.toNat k.bits)))):=
 Hn_ hx hy (λw=>E2_ w) λw=>by
   have e:¬q<0:=by omega
   simp[binOp,Op.shift,e]
theorem lo_shr{k k':IntKind}{p q:Int}(hx:ev F x = .int k p)(hy:ev F y = .int k' q)(h0:0<=q):Lo P N (.binOp .shr T x y T') ty F H L (.int k (p.fdiv (2 ^ (min q.toNat k.bits)))):=
 Hn_ hx hy (λw=>E2_ w) λw=>by
   have e:¬q<0:=by omega
   simp[binOp,Op.shift,e]
theorem lo_or{k:IntKind}{p q:Int}(hx:ev F x = .int k p)(hy:ev F y = .int k q):Lo P N (.binOp .or T x y T') ty F H L (.int k (k.wrap ((BitVec.ofInt k.bits p |||BitVec.ofInt k.bits q).toNat))):=
 Hn_ hx hy (λw=>E2_ w) λw=>by simp[binOp,DP]
theorem lo_and{k:IntKind}{p q:Int}(hx:ev F x = .int k p)(hy:ev F y = .int k q):Lo P N (.binOp .and T x y T') ty F H L (.int k (k.wrap ((BitVec.ofInt k.bits p &&& BitVec.ofInt k.bits q).toNat))):=
 Hn_ hx hy (λw=>E2_ w) λw=>by simp[binOp,DP]
theorem lo_xor{k:IntKind}{p q:Int}(hx:ev F x = .int k p)(hy:ev F y = .int k q):Lo P N (.binOp .xor T x y T') ty F H L (.int k (k.wrap ((BitVec.ofInt k.bits p ^^^ BitVec.ofInt k.bits q).toNat))):=
 Hn_ hx hy (λw=>E2_ w) λw=>by simp[binOp,DP]
theorem lo_com{k:IntKind}{p:Int}(hx:ev F x = .int k p)(hk:k.signed=false):Lo P N (.unOp .xor T x) ty F H L (.int k (k.wrap ((BitVec.ofInt k.bits k.max ^^^ BitVec.ofInt k.bits p).toNat))):=λd pos af g w _=>by
 simp[execOp,hx,Op.unary,DP,hk]
theorem lo_extract{vs:Array Value}{i:Nat}{v:Value}(hx:ev F x = .tuple vs)(hv:vs[i]? = some v):Lo P N (.extract x i) ty F H L v:=λd pos af g w _=>by
 simp[execOp,Instr.extract,hx,hv]
theorem Gq_{p:Addr}(hx:ev F x = .pointer (some p)):Lo P N (.nilCheck x) ty F H L (.pointer (some p)):=λd pos af g w _=>by
 simp[execOp,hx]
theorem lo_nilCheckF{f:FuncId}{cap:Array Value}(hx:ev F x = .func (.func f) #[] cap):Lo P N (.nilCheck x) ty F H L (.func (.func f) #[] cap):=λd pos af g w _=>by
 simp[execOp,hx]
theorem Ut_{p:Addr}{e:TypeId}(hx:ev F x = .pointer (some p))(hy:ev F y = .pointer none)(hT:P.underlying T=some (.pointer e)):Lo P N (.binOp .eql T x y T') ty F H L (.bool false):=
 Hn_ hx hy (λw=>Ox_ w) λw=>by simp[binOp,Oz_ (λd=>U7_ d hT w)]
theorem lo_pne_nil{p:Addr}{e:TypeId}(hx:ev F x = .pointer (some p))(hy:ev F y = .pointer none)(hT:P.underlying T=some (.pointer e)):Lo P N (.binOp .neq T x y T') ty F H L (.bool true):=
 Hn_ hx hy (λw=>Ox_ w) λw=>by simp[binOp,Oz_ (λd=>U7_ d hT w)]
def Fld(P:Program)(T:TypeId)(i o:Nat):Prop:=∀ (b off:Nat) (w:World),(G2 T (.pointer (some ⟨b,off,none⟩)) i).run P w = .ok (.pointer (some ⟨b,off+o,none⟩)) w
theorem E3_{b off i o:Nat}(hx:ev F x = .pointer (some ⟨b,off,none⟩))(hf:Fld P T i o):Lo P N (.fieldAddr T x i) ty F H L (.pointer (some ⟨b,off+o,none⟩)):=λd pos af g w _=>by
 simp[execOp,hx,hf b off w]
def Ag(P:Program)(t:TypeId)(g:Bool):Prop:=∀ w,(isAgg t).run P w = .ok g w
def Sz(P:Program)(t:TypeId)(k:Nat):Prop:=∀ w,(sizeOf t).run P w = .ok k w
def bx(T:TypeId)(cs:List Value):Obj:= .cells cs.toArray T (0,0)
def sub(cs:List Value)(off k:Nat):List Value:=(cs.drop off).take k
theorem Mem.cellL{w:World}(h:Mem N H L w){i b off:Nat}{T:TypeId}{cs:List Value}{v:Value}(hi:L i=some (b,bx T cs))(hv:cs[off]? = some v):w.cell? ⟨b,off,none⟩=some v:=by
 simp[CE,h.l i b _ hi,bx,hv]
theorem Gv_(b off j:Nat):(⟨b,off,none⟩:Addr).add j=⟨b,off+j,none⟩:=by
 unfold Addr.add;split;grind;rfl
theorem Kv_{b off i:Nat}{T0:TypeId}{cs:List Value}{v:Value}(hx:ev F x = .pointer (some ⟨b,off,none⟩))(hg:Ag P T false)(hi:L i=some (b,bx T0 cs))(hv:cs[off]? = some v):Lo P N (.load T x) ty F H L v:=λd pos af g w hm=>by
 have hc:=hm.cellL hi hv
 exact sS
theorem V3_{b off i k:Nat}{T0:TypeId}{cs vs:List Value}(hx:ev F x = .pointer (some ⟨b,off,none⟩))(hg:Ag P T true)(hk:Sz P T k)(hi:L i=some (b,bx T0 cs))(hv:sub cs off k=vs)(hl:vs.length=k):Lo P N (.load T x) ty F H L (.agg vs.toArray):=λd pos af g w hm=>by
 have hc:=run_loadCells_list (P:=P) w ⟨b,off,none⟩ vs (λj v hj=>by
   rw[Gv_]
   refine hm.cellL hi ?_
   subst hv
   simp only[sub,BA,CO] at hj
   split at hj
   . exact hj
   . cases hj)
 exact tN
theorem rv_c{a b off i k:Nat}{T0:TypeId}{cs vs:List Value}(hx:F a = .pointer (some ⟨b,off,none⟩))(hg:Ag P T true)(hk:Sz P T k)(hi:L i=some (b,bx T0 cs))(hv:sub cs off k=vs)(hl:vs.length=k):RV P N F H L (.cell a T) (.agg vs.toArray):=λw tmps ht hm=>by
 have hc:=run_loadCells_list (P:=P) w ⟨b,off,none⟩ vs (λj v hj=>by
   rw[Gv_]
   refine hm.cellL hi ?_
   subst hv
   simp only[sub,BA,CO] at hj
   split at hj
   . exact hj
   . cases hj)
 rw[hl] at hc
 have hp:tmps.getD a undef = .pointer (some ⟨b,off,none⟩):=(ht a).trans hx
 simp only[rvS,hp]
 simp[asAddr,loadVar,hg w,hk w,hc]
section sl
variable{α:Type}
def SlAt(H:Hp)(sv:Value)(k m:Nat)(cs:List Value):Prop:=
 ∃ b off l cap c T fr,sv = .slice (some ⟨b,off,none⟩) l cap/\H b=some (.cells c T fr)/\cs.length=k/\∀ j,j<k->c[off+m*k+j]? = cs[j]?
def SlH(E:Hp->α->List Value->Prop)(k:Nat)(H:Hp)(sv:Value)(xs:List α):Prop:=
 (∃ a c,sv = .slice a xs.length c/\xs.length<=c)/\∀ m (h:m<xs.length),∃ cs,E H xs[m] cs/\SlAt H sv k m cs
def sBlk:Value->Nat
 | .slice (some a) _ _=>a.block
 |_=>0
def sOff:Value->Nat
 | .slice (some a) _ _=>a.off
 |_=>0
def sPtr(sv:Value)(k m:Nat):Value:= .pointer (some ⟨sBlk sv,sOff sv+m*k,none⟩)
theorem SlH.get{E:Hp->α->List Value->Prop}{k m:Nat}{sv:Value}{xs:List α}{c:α}(h:SlH E k H sv xs)(hc:xs[m]? = some c):∃ cs,E H c cs/\SlAt H sv k m cs:=by
 obtain⟨hm,rfl⟩:=List.getElem?_eq_some_iff.1 hc;exact h.2 m hm
theorem getE{xs:List α}{m:Nat}(h:m<xs.length):∃ c,xs[m]? = some c:=⟨_,AA h⟩
theorem Fu_{xs:List α}{m:Nat}{c:α}(h:xs[m]? = some c):xs.drop m=c::xs.drop (m+1):=by
 obtain⟨hm,rfl⟩:=List.getElem?_eq_some_iff.1 h
 simp_all
theorem takeE{xs:List α}{m:Nat}{c:α}(h:xs[m]? = some c):xs.take (m+1)=xs.take m++[c]:=by
 rw[CR,h];rfl
theorem SlAt.mono{H':Hp}{sv:Value}{k m:Nat}{cs:List Value}(h:SlAt H sv k m cs)(hl:HLe H H'):SlAt H' sv k m cs:=by
 have⟨b,off,l,cap,c,T,fr,h1,h2,h3⟩:=h;exact⟨b,off,l,cap,c,T,fr,h1,hl _ _ h2,h3⟩
theorem SlH.mono{H':Hp}{E:Hp->α->List Value->Prop}{k:Nat}{sv:Value}{xs:List α}(h:SlH E k H sv xs)(hl:HLe H H')(hE:∀ x cs,E H x cs->E H' x cs):SlH E k H' sv xs:=
 ⟨h.1,λm hm=>let ⟨cs,h1,h2⟩:=h.2 m hm;⟨cs,hE _ _ h1,h2.mono hl⟩⟩
theorem lo_len_slh{E:Hp->α->List Value->Prop}{k:Nat}{sv:Value}{xs:List α}{e:TypeId}(hx:ev F x=sv)(hs:SlH E k H sv xs)(hT:P.underlying T=some (.slice e)):Lo P N (.call ⟨.builtin .len,#[x],#[T]⟩) ty F H L (.int .i64 xs.length):=by
 have⟨a,c,h,_⟩:=hs.1;exact Tm_ (hx.trans h) hT
theorem lo_indexAddr{kk:IntKind}{k m:Nat}{i:Int}{sv:Value}{cs:List Value}{e:TypeId}{len:Nat}(hx:ev F x=sv)(hy:ev F y = .int kk i)(hl:∃ a c,sv = .slice a len c/\len<=c)(hs:SlAt H sv k m cs)(hT:P.underlying T=some (.slice e))(hk:Sz P e k)(hi:i=m)(hm:m<len):Lo P N (.indexAddr T x y) ty F H L (sPtr sv k m):=λd pos af g w _=>by
 have⟨b,off,l,cap,c,T0,fr,h1,_⟩:=hs
 have⟨a',c',h2,_⟩:=hl
 subst hi
 have hle:l=len:=by rw[h1] at h2;injection h2
 subst hle
 have h0:(0:Int)<=(m:Int):=by omega
 have hlt:((m:Nat):Int)<(l:Int):=by omega
 have hx':ev F x = .slice (some ⟨b,off,none⟩) l cap:=by rw[hx,h1]
 simp[execOp,hx',hy,G3,asIntOf,run_underlying hT,hk w,hm,Gv_,sPtr,h1,sBlk,sOff]
theorem Mem.cellAt{w:World}(hm:Mem N H L w){sv:Value}{k m:Nat}{cs:List Value}(hs:SlAt H sv k m cs){j:Nat}{v:Value}(hj:cs[j]? = some v):w.cell? ⟨sBlk sv,sOff sv+m*k+j,none⟩=some v:=by
 have⟨b,off,l,cap,c,T0,fr,h1,h2,h3,h4⟩:=hs;subst h1;have :j<k:=by
   grind
 simp[CE,sBlk,sOff,hm.h b _ h2,h4 j this,hj]
theorem lo_loadEf{k m o off:Nat}{sv v:Value}{cs:List Value}(hx:ev F x = .pointer (some ⟨sBlk sv,sOff sv+m*k+o,none⟩))(hg:Ag P T false)(hs:SlAt H sv k m cs)(ho:off=o)(hv:cs[o]? = some v):Lo P N (.load T x) ty F H L v:=λd pos af g w hm=>by
 have hc:=hm.cellAt hs hv
 exact sS
end sl
variable{ops:List Oper}{d:Nat}{pos:String}{af:Array Edge}{K:Fr->Hp->Ls->Prop}{pd:Option Nat}
theorem op1_box{cs:List Value}(i:Nat)(hd:Nat.blt d n=true)(hx:ev F x = .agg cs.toArray)(k:∀ b,K (upd F d (.pointer (some ⟨b,0,none⟩))) H (lupd L i (some (b,bx T cs)))):Op1 P n N ops ⟨some d, .box T x,ty,pos,af,none⟩ K F H L:=by
 intro a w ha hm;rw[if_pos qM];unfold BJ;have :(execOp a.eval ⟨some d, .box T x,ty,pos,af,none⟩).run P w = .ok (.value (.pointer (some ⟨w.heap.size,0,none⟩))) {w with heap:=w.heap.push (bx T cs)}:=by
   rw[ha.eval]
   simp[execOp,GX,hx,newVar,newRow,EZ,bx]
 exact tQ
theorem op1_box1{v:Value}(i:Nat)(hd:Nat.blt d n=true)(hx:ev F x=v)(hv:v.cells = #[v])(k:∀ b,K (upd F d (.pointer (some ⟨b,0,none⟩))) H (lupd L i (some (b,bx T [v])))):Op1 P n N ops ⟨some d, .box T x,ty,pos,af,none⟩ K F H L:=by
 intro a w ha hm;rw[if_pos qM];unfold BJ;have :(execOp a.eval ⟨some d, .box T x,ty,pos,af,none⟩).run P w = .ok (.value (.pointer (some ⟨w.heap.size,0,none⟩))) {w with heap:=w.heap.push (bx T [v])}:=by
   rw[ha.eval]
   simp[execOp,GX,hx,newVar,newRow,hv,bx]
 exact tQ
def Zr(P:Program)(t:TypeId)(cs:List Value):Prop:=∀ w,∃ v,(zeroValue t).run P w = .ok v w/\v.cells=cs.toArray
theorem Ts_{cs:List Value}(i:Nat)(hd:Nat.blt d n=true)(hz:Zr P T cs)(k:∀ b,K (upd F d (.pointer (some ⟨b,0,none⟩))) H (lupd L i (some (b,bx T cs)))):Op1 P n N ops ⟨some d, .alloc T,ty,pos,af,none⟩ K F H L:=by
 intro a w ha hm;rw[if_pos qM];unfold BJ;have⟨v,hv,hcs⟩:=hz w;have :(execOp a.eval ⟨some d, .alloc T,ty,pos,af,none⟩).run P w = .ok (.value (.pointer (some ⟨w.heap.size,0,none⟩))) {w with heap:=w.heap.push (bx T cs)}:=by
   simp[execOp,Instr.alloc,hv,newVar,newRow,hcs,bx]
 exact tQ
theorem Mem.store1{w:World}(h:Mem N H L w){i b off:Nat}{T:TypeId}{cs:List Value}{v:Value}(hi:L i=some (b,bx T cs))(ho:off<cs.length)(hv:v.oneCell'=true) :
   (store ⟨b,off,none⟩ v).run P w = .ok () (w.setCell ⟨b,off,none⟩ v)/\Mem N H (lupd L i (some (b,bx T (cs.set off v)))) (w.setCell ⟨b,off,none⟩ v):=by
 have hb:=h.l i b _ hi;have hlt:b<w.heap.size:=by
   grind
 have hc:w.cell? ⟨b,off,none⟩=some cs[off]:=by simp[CE,hb,bx,ho]
 have hf:w.frozen? ⟨b,off,none⟩=false:=by simp[World.frozen?,hb,bx]
 constructor;rw[run_store P w _ v .plain hv];simp[stored,hc,hf];refine h.set hi Z Z Z ?_ (λc o hne ho'=>?_);simp only[G4,CA,if_true,hb];simp[bx,List.setIfInBounds_toArray];simp only[G4,CA];grind
theorem Km_{b off i:Nat}{T0:TypeId}{cs:List Value}{v:Value}(hx:ev F x = .pointer (some ⟨b,off,none⟩))(hy:ev F y=v)(hv:v.oneCell'=true)(hk:Sz P T 1)(hi:L i=some (b,bx T0 cs))(ho':Nat.blt off cs.length=true)
   (k:K F H (lupd L i (some (b,bx T0 (cs.set off v))))):Op1 P n N ops ⟨none, .store T x y,ty,pos,af,none⟩ K F H L:=by
 intro a w ha hm;rw[if_pos qM];unfold BJ;have ho:off<cs.length:=by simpa using ho'
 have⟨hs,hm'⟩:=hm.store1 (P:=P) hi ho hv;have hcells:v.cells = #[v]:=by cases v<;>first|rfl|cases hv
 have :(execOp a.eval ⟨none, .store T x y,ty,pos,af,none⟩).run P w = .ok .skip (w.setCell ⟨b,off,none⟩ v):=by
   rw[ha.eval]
   simp[execOp,G5,hx,hy,D9,storeVar,hcells,hk w,storeCells,Gv_,hs]
 rw[this];exact⟨_,_,_,ha,hm',k⟩
def Oq_(cs:List Value):Nat->List Value->List Value
 |_,[]=>cs
 |off,v::r=>Oq_ (cs.set off v) (off+1) r
theorem Vg_(cs:List Value)(off:Nat)(vs:List Value):(Oq_ cs off vs).length=cs.length:=by
 induction vs generalizing cs off with
 |nil=>rfl
 |cons v r ih=>simp[Oq_,ih]
theorem Mem.storeA{T0:TypeId}(b i off0:Nat):∀ (vs cs:List Value) (j:Nat) (L:Ls) (w:World),Mem N H L w->L i=some (b,bx T0 cs)->off0+j+vs.length<=cs.length->(∀ v∈vs,v.oneCell'=true) ->
   ∃ w' L',(storeCells ⟨b,off0,none⟩ vs j).run P w = .ok () w'/\Mem N H L' w'/\(∀ q,q≠i->L' q=L q)/\L' i=some (b,bx T0 (Oq_ cs (off0+j) vs))
 |[],cs,j,L,w,hm,hi,_,_=>⟨w,L,rfl,hm,λ_ _=>rfl,hi⟩
 |v::r,cs,j,L,w,hm,hi,hl,h1=>by
   have⟨hs,hm'⟩:=hm.store1 (P:=P) (off:=off0+j) hi (by simp at hl;omega) (h1 v qI)
   have⟨w',L',e1,e2,e3,e4⟩:=Mem.storeA b i off0 r (cs.set (off0+j) v) (j+1) _ _ hm' (Co_ _ _ _) (by simp at hl ⊢;omega) (λu hu=>h1 u (by simp[hu]))
   refine⟨w',L',?_,e2,λq hq=>by rw[e3 q hq,Ci_ hq],?_⟩
   . simp only[storeCells,Gv_,CC,hs,Result.andThen]
     exact e1
   . rw[e4];simp[Oq_,C7]
theorem Z3_{b off i m:Nat}{T0:TypeId}{cs vs:List Value}(hx:ev F x = .pointer (some ⟨b,off,none⟩))(hy:ev F y = .agg vs.toArray)(hv:vs.all Value.oneCell'=true)(hk:Sz P T m)(hm:vs.length=m)(hi:L i=some (b,bx T0 cs))(ho':Nat.ble (off+vs.length) cs.length=true)
   (k:K F H (lupd L i (some (b,bx T0 (Oq_ cs off vs))))):Op1 P n N ops ⟨none, .store T x y,ty,pos,af,none⟩ K F H L:=by
 intro a w ha hmm;rw[if_pos qM];unfold BJ;have ho:off+vs.length<=cs.length:=by simpa using ho'
 have⟨w',L',e1,e2,e3,e4⟩:=Mem.storeA (P:=P) b i off vs cs 0 L w hmm hi (by simpa using ho) (λv h=>List.all_eq_true.1 hv v h);have :(execOp a.eval ⟨none, .store T x y,ty,pos,af,none⟩).run P w = .ok .skip w':=by
   rw[ha.eval]
   simp[execOp,G5,hx,hy,D9,storeVar,EZ,hk w,hm,e1]
 rw[this];have hL:L'=lupd L i (some (b,bx T0 (Oq_ cs off vs))):=funext λq=>by
   by_cases e:q=i
   . subst e;rw[Co_,e4];rfl
   . rw[Ci_ e,e3 q e]
 subst hL;exact⟨_,_,_,ha,e2,k⟩
def memB:List Nat->Nat->Bool
 |[],_=>false
 |s::r,t=>bif AW t s then true else memB r t
def mask(S:List Nat)(J F:Fr):Fr:=λt=>bif memB S t then J t else F t
def Off(S:List Nat)(G F:Fr):Prop:=∀ t,memB S t=false->G t=F t
theorem off_mask{S:List Nat}{J F:Fr}:Off S (mask S J F) F:=λt h=>by simp[mask,h]
theorem off_refl{S:List Nat}{F:Fr}:Off S F F:=λ_ _=>rfl
theorem off_upd{S:List Nat}{G F:Fr}{d:Nat}{v:Value}(h:memB S d=true)(k:Off S G F):Off S (upd G d v) F:=λt ht=>by
 have :t≠d:=λe=>by subst e;rw[h] at ht;cases ht
 rw[upd_ne this];exact k t ht
theorem off_mask2{S S2:List Nat}{J G F:Fr}(h:S2.all (memB S)=true)(k:Off S G F):Off S (mask S2 J G) F:=λt ht=>by
 have :memB S2 t=false:=by
   cases e:memB S2 t with
   |false=>rfl
   |true=>
     have hm:t∈S2:=by
       clear h
       induction S2 with
       |nil=>cases e
       |cons s r ih=>
         simp only[memB] at e
         cases q:AW t s with
         |true=>rw[AQ q];simp
         |false=>rw[q] at e;exact AB _ (ih e)
     grind
 simp only[mask,this,cond_false];exact k t ht
theorem Zz_{S:List Nat}{G F:Fr}(h:Off S G F):G=mask S G F:=funext λt=>by
 unfold mask
 cases e:memB S t with
 |true=>rfl
 |false=>exact h t e
theorem upd_intro{G G':Fr}{s:Nat}{v:Value}(h:G=G')(hv:G s=v):G=upd G' s v:=funext λt=>by
 by_cases e:t=s
 . subst e;rw[upd_same];exact hv
 . rw[upd_ne e,h]
def Y7_(S:List Nat)(J L:Ls):Ls:=λt=>bif memB S t then J t else L t
def OffL(S:List Nat)(G L:Ls):Prop:=∀ t,memB S t=false->G t=L t
theorem offl_mask{S:List Nat}{J L:Ls}:OffL S (Y7_ S J L) L:=λt h=>by simp[Y7_,h]
theorem offl_refl{S:List Nat}{L:Ls}:OffL S L L:=λ_ _=>rfl
theorem offl_upd{S:List Nat}{G L:Ls}{d:Nat}{v:Option (Nat×Obj)}(h:memB S d=true)(k:OffL S G L):OffL S (lupd G d v) L:=λt ht=>by
 have :t≠d:=λe=>by subst e;rw[h] at ht;cases ht
 rw[Ci_ this];exact k t ht
theorem offl_mask2{S S2:List Nat}{J G L:Ls}(h:S2.all (memB S)=true)(k:OffL S G L):OffL S (Y7_ S2 J G) L:=λt ht=>by
 have :memB S2 t=false:=by
   cases e:memB S2 t with
   |false=>rfl
   |true=>
     have hm:t∈S2:=by
       clear h
       induction S2 with
       |nil=>cases e
       |cons s r ih=>
         simp only[memB] at e
         cases q:AW t s with
         |true=>rw[AQ q];simp
         |false=>rw[q] at e;exact AB _ (ih e)
     grind
 simp only[Y7_,this,cond_false];exact k t ht
theorem Xt_{S:List Nat}{G L:Ls}(h:OffL S G L):G=Y7_ S G L:=funext λt=>by
 unfold Y7_
 cases e:memB S t with
 |true=>rfl
 |false=>exact h t e
theorem Q1_{G G':Ls}{s:Nat}{v:Option (Nat×Obj)}(h:G=G')(hv:G s=v):G=lupd G' s v:=funext λt=>by
 by_cases e:t=s
 . subst e;rw[Co_];exact hv
 . rw[Ci_ e,h]
def LI5{α:Type}{β:Type}{γ:Type}{δ:Type}{ε:Type}(S SL:List Nat)(F:Fr)(H:Hp)(L:Ls)(live:α->β->γ->δ->ε->Fr->Fr)(Lm:α->β->γ->δ->ε->Ls->Ls)(Φ:α->β->γ->δ->ε->Hp->Prop)(μ:α->β->γ->δ->ε->Nat):Nat->Fr->Hp->Ls->Prop:=λm F' H' L'=>
 ∃ x1 x2 x3 x4 x5 J JL,F'=live x1 x2 x3 x4 x5 (mask S J F)/\L'=Lm x1 x2 x3 x4 x5 (Y7_ SL JL L)/\HLe H H'/\Φ x1 x2 x3 x4 x5 H'/\μ x1 x2 x3 x4 x5=m
theorem cw_loop5{α:Type}{β:Type}{γ:Type}{δ:Type}{ε:Type}{c:Code}{Q:Qt}(S SL:List Nat)(live:α->β->γ->δ->ε->Fr->Fr)(Lm:α->β->γ->δ->ε->Ls->Ls)(Φ:α->β->γ->δ->ε->Hp->Prop)(μ:α->β->γ->δ->ε->Nat)(y1:α)(y2:β)(y3:γ)(y4:δ)(y5:ε)
   (h0:F=live y1 y2 y3 y4 y5 (mask S F F)) (h1:L=Lm y1 y2 y3 y4 y5 (Y7_ SL L L)) (h2:Φ y1 y2 y3 y4 y5 H)
   (round:∀ x1 x2 x3 x4 x5 J JL H',Φ x1 x2 x3 x4 x5 H'->HLe H H'->Cw P n N c (loopK (LI5 S SL F H L live Lm Φ μ) (μ x1 x2 x3 x4 x5) Q) (live x1 x2 x3 x4 x5 (mask S J F)) H' (Lm x1 x2 x3 x4 x5 (Y7_ SL JL L))):Cw P n N (.loop c) Q F H L:=by
 refine cw_loop (LI5 S SL F H L live Lm Φ μ) (μ y1 y2 y3 y4 y5) ⟨y1,y2,y3,y4,y5,F,L,h0,h1, .refl _,h2,rfl⟩ λm F' H' L' hI=>?_;obtain⟨x1,x2,x3,x4,x5,J,JL,rfl,rfl,hl,hp,rfl⟩:=hI;grind
theorem next5{α:Type}{β:Type}{γ:Type}{δ:Type}{ε:Type}{Q:Qt}{S SL:List Nat}{live:α->β->γ->δ->ε->Fr->Fr}{Lm:α->β->γ->δ->ε->Ls->Ls}{Φ:α->β->γ->δ->ε->Hp->Prop}{μ:α->β->γ->δ->ε->Nat}{m:Nat}{F':Fr}{H':Hp}{L':Ls}(x1':α)(x2':β)(x3':γ)(x4':δ)(x5':ε)
   (h0:F'=live x1' x2' x3' x4' x5' (mask S F' F)) (h1:L'=Lm x1' x2' x3' x4' x5' (Y7_ SL L' L)) (hl:HLe H H') (h2:Φ x1' x2' x3' x4' x5' H') (hm:μ x1' x2' x3' x4' x5'<m):loopK (LI5 S SL F H L live Lm Φ μ) m Q .normal F' H' L':=
 ⟨_,hm,x1',x2',x3',x4',x5',F',L',h0,h1,hl,h2,rfl⟩
theorem Ff_{b:Bool}(h:(!b)=true):b=false:=by simpa using h
theorem D6_{b:Bool}(h:(!b)=false):b=true:=by simpa using h
theorem dt{p:Prop}[Decidable p](h:decide p=true):p:=of_decide_eq_true h
theorem df{p:Prop}[Decidable p](h:decide p=false):¬p:=of_decide_eq_false h
theorem pr_cw{m:Nat}{f:FuncId}{fn:Func}{c:Code}{args:Array Value}{H:Hp}{v:Value}(hf:P.funcs[f]? = some fn)(hb:fn.body=some c)(hn:fn.ntmps=m)(hs:Nat.ble args.size m=true)
   (h:∀ N,Cw P m N c (fnK P N fn H (λv' _ _=>v'=v)) (Lc_ args) H l0):Pr P f args H v:=by
 subst hn;exact pr_of_cw hf hb (by simpa using hs) h
variable{op:Op}
theorem op1_in{m:Nat}{f:FuncId}{fn:Func}{c:Code}{args:Array Value}(he:En P op F f args)(hf:P.funcs[f]? = some fn)(hb:fn.body=some c)(hn:fn.ntmps=m)(hs:Nat.ble args.size m=true)(hd:Nat.blt d n=true)
   (h:Cw P m N c (fnK P N fn H (λv H' L'=>K (upd F d v) H' L')) (Lc_ args) H L):Op1 P n N ops ⟨some d,op,ty,pos,af,none⟩ K F H L:=by
 intro a w ha hm;subst hn;rw[if_pos qM];unfold BJ;rw[ha.eval,he];exact Ih_ hf hb (by simpa using hs) h hm λv H' L' w' hk _ hm'=>⟨_,H',L',ha.put qO v,hm',hk⟩
def evp(F:Fr):List (Nat×Operand)->List (Nat×Value)
 |[]=>[]
 |x::r=>(x.1,ev F x.2)::evp F r
theorem evp_map(F:Fr)(l:List (Nat×Operand)):l.map (λp=>(p.1,ev F p.2))=evp F l:=by
 induction l with
 |nil=>rfl
 |cons x r ih=>simp[evp,ih]
theorem lo_build{ps:List (Nat×Operand)}{vs:List (Nat×Value)}{v:Value}(hv:evp F ps=vs)(h:∀ w,(Instr.build T vs.toArray).run P w = .ok v w):Lo P N (.build T ps.toArray) ty F H L v:=λd pos af g w _=>by
 subst hv
 have :=h w
 simp[execOp,evp_map,this]
def Qp_:List (Nat×Value)->List Value
 |[]=>[]
 |x::r=>x.2.cells.toList++Qp_ r
def inOrder(k:Nat):Nat->List (Nat×Value)->Prop
 |_,[]=>True
 |i,x::r=>x.1=i/\x.2.cells.size=k/\inOrder k (i+1) r
theorem fill_one(cs:List Value):∀ (vs:List Value) (j off:Nat) (c:Array Value),off+j+vs.length<=c.size ->
   ((vs.zipIdx j).foldl (λcs (p:Value×Nat)=>cs.setIfInBounds (off+p.2) p.1) c).toList=c.toList.take (off+j)++vs++c.toList.drop (off+j+vs.length)
 |[],j,off,c,h=>by simp
 |v::r,j,off,c,h=>by
   simp only[A3] at h
   rw[List.zipIdx_cons,BP,fill_one cs r (j+1) off _ qQ]
   simp only[Array.toList_setIfInBounds,A3]
   have hlt:off+j<c.toList.length:=by simp;omega
   have e1:(c.toList.set (off+j) v).take (off+(j+1))=c.toList.take (off+j)++[v]:=by
     rw[show off+(j+1)=(off+j)+1 by omega,CR,DD (BF _)]
     grind
   have e2:(c.toList.set (off+j) v).drop (off+(j+1)+r.length)=c.toList.drop (off+j+(r.length+1)):=by
     rw[FF qD]
     exact zD
   rw[e1,e2];simp
theorem fill_all(k:Nat):∀ (ps:List (Nat×Value)) (i:Nat) (c:Array Value),inOrder k i ps->(i+ps.length)*k<=c.size ->
   ∃ c',Instr.fill (λi=>some (i*k,k)) c ps=some c'/\c'.toList=c.toList.take (i*k)++Qp_ ps++c.toList.drop ((i+ps.length)*k)
 |[],i,c,_,h=>⟨c,rfl,by simp[Qp_]⟩
 |p::r,i,c,ho,h=>by
   have⟨h1,h2,h3⟩:=ho
   have⟨q,v⟩:=p
   simp only at h1 h2
   subst h1
   simp only[A3] at h
   have hle:q*k+k<=c.size:=by
     have :(q+1)*k<=(q+(r.length+1))*k:=BQ k qD
     rw[B7,EE] at this
     omega
   have hsz:∀ (l:List (Value×Nat)) (c:Array Value),(l.foldl (λcs (p:Value×Nat)=>cs.setIfInBounds (q*k+p.2) p.1) c).size=c.size:=by
     intro l
     induction l with
     |nil=>intro c;rfl
     |cons x r ih=>intro c;rw[BP,ih];simp
   have hz:(v.cells.zipIdx.foldl (λcs (p:Value×Nat)=>cs.setIfInBounds (q*k+p.2) p.1) c)=(v.cells.toList.zipIdx.foldl (λcs (p:Value×Nat)=>cs.setIfInBounds (q*k+p.2) p.1) c):=by
     rw[<- FG,F8]
   have⟨c',e1,e2⟩:=fill_all k r (q+1) (v.cells.zipIdx.foldl (λcs (p:Value×Nat)=>cs.setIfInBounds (q*k+p.2) p.1) c) h3 (by rw[hz,hsz];rw[show q+1+r.length=q+(r.length+1) by omega];exact h)
   refine⟨c',?_,?_⟩
   . have hcond:(v.cells.size≠k || decide (q*k+v.cells.size>c.size))=false:=by
       simp[h2];omega
     simp only[FH]
     rw[if_neg (by simpa using hcond)]
     exact e1
   . rw[e2,hz,fill_one [] v.cells.toList 0 (q*k) c qQ]
     have hl:v.cells.toList.length=k:=by simpa using h2
     simp only[E4,hl]
     have t1:((q+1)*k)=q*k+k:=by rw[B7,EE]
     have ht:(c.toList.take (q*k)).length=q*k:=by simp;omega
     have e3:((c.toList.take (q*k)++v.cells.toList++c.toList.drop (q*k+k)).take ((q+1)*k))=c.toList.take (q*k)++v.cells.toList:=by
       rw[t1];exact List.take_left' (by rw[A1,hl,ht])
     have e4:((c.toList.take (q*k)++v.cells.toList++c.toList.drop (q*k+k)).drop ((q+1+r.length)*k))=c.toList.drop ((q+(r.length+1))*k):=by
       have t2:(q+1+r.length)*k=(q*k+k)+r.length*k:=by rw[B7,t1]
       have t3:(q+(r.length+1))*k=(q*k+k)+r.length*k:=by rw[<- t2];congr 1;omega
       have hA:(c.toList.take (q*k)++v.cells.toList).length=q*k+k:=by rw[A1,hl,ht]
       rw[t2,t3,List.drop_append,hA,List.drop_of_length_le qD,AV,List.drop_drop]
       exact zD
     rw[e3,e4];simp[Qp_]
theorem Z2_{e k len:Nat}{ps:List (Nat×Operand)}{vs:List (Nat×Value)}{cs:List Value}(i:Nat)(hd:Nat.blt d n=true)(hT:P.underlying T=some (.slice e))(hk:Sz P e k)(hz:∃ z,∀ w,(zeroValue e).run P w = .ok z w)(hv:evp F ps=vs)(ho:inOrder k 0 vs)(hl:vs.length=len)(hc:Qp_ vs=cs)(hs:len*k<=16777216)
   (kk:∀ b,K (upd F d (.slice (some ⟨b,0,none⟩) len len)) H (lupd L i (some (b,bx e cs)))):Op1 P n N ops ⟨some d, .buildSlice T len ps.toArray,ty,pos,af,none⟩ K F H L:=by
 intro a w ha hm;rw[if_pos qM];unfold BJ;subst hv;subst hl;have⟨z,hz⟩:=hz;have :(execOp a.eval ⟨some d, .buildSlice T (evp F ps).length ps.toArray,ty,pos,af,none⟩).run P w = .ok (.value (.slice (some ⟨w.heap.size,0,none⟩) (evp F ps).length (evp F ps).length)) {w with heap:=w.heap.push (bx e cs)}:=by
   rw[ha.eval]
   have hlim:¬((evp F ps).length*k>2 ^ 24):=by have :(2:Nat) ^ 24=16777216:=rfl;omega
   have key:∀ zero:Array Value,∃ c',FH (λi=>some (i*k,k)) ((GM ((evp F ps).length*k)).map (zero[· % zero.size]!)) (evp F ps)=some c'/\c'=cs.toArray:=λzero=>by
     have⟨c',h1,h2⟩:=fill_all k (evp F ps) 0 ((GM ((evp F ps).length*k)).map (zero[· % zero.size]!)) ho qI
     refine⟨c',h1,?_⟩
     apply E7
     rw[h2,hc]
     simp
   simp only[execOp,Instr.buildSlice,CC,run_underlying hT,DK,hk w,hlim,if_false]
   simp only[List.map_toArray,evp_map]
   by_cases h0:(evp F ps).length*k=0
   . have⟨c',h1,h2⟩:=key #[]
     simp[h0] at h1
     simp[h0,h1,h2,newRow,bx]
   . have⟨c',h1,h2⟩:=key z.cells
     simp[h0,hz w,h1,h2,newRow,bx]
 rw[this];exact zZ
variable{T2:TypeId}
def OwnV(k:Nat)(e:TypeId)(v:Value)(en:Option (Nat×Obj))(len:Nat)(cs:List Value):Prop:=
 cs.length=len*k/\((v = .slice none 0 0/\len=0/\en=none) \/
   ∃ b cap c f,v = .slice (some ⟨b,f.length,none⟩) len cap/\en=some (b,bx e (f++c))/\cap*k<=c.length/\len<=cap/\c.take (len*k)=cs/\(k=1->f=[]))
theorem O6_{k:Nat}{e:TypeId}:OwnV k e (.slice none 0 0) none 0 []:=⟨by simp, .inl ⟨rfl,rfl,rfl⟩⟩
theorem ownV_bx{k:Nat}{e:TypeId}{b len:Nat}{cs:List Value}(h:cs.length=len*k):OwnV k e (.slice (some ⟨b,0,none⟩) len len) (some (b,bx e cs)) len cs:=
 ⟨h, .inr ⟨b,len,cs,[],rfl,rfl,by omega,BF _,by rw[<- h,List.take_length],λ_=>rfl⟩⟩
def Src(P:Program)(N:Rest)(H:Hp)(L:Ls)(k:Nat)(sv:Value)(m:Nat)(news:List Value):Prop:=
 news.length=m*k/\∀ w,Mem N H L w->(BS sv).run P w = .ok m w/\(AK k m sv).run P w = .ok news.toArray w
theorem src_str{l:Bs}:Src P N H L 1 (str l) l.length (l.map λc=> .int .u8 c.toNat):=by
 refine⟨by simp,λw _=>⟨by simp[BS,str,Ko_],?_⟩⟩;simp only[AK,str];have :(⟨l.toArray⟩:ByteArray).extract 0 l.length=⟨l.toArray⟩:=by rw[N6_];simp
 rw[this];simp
theorem src_bx{k b len cap i:Nat}{e:TypeId}{cs:List Value}(hi:L i=some (b,bx e cs))(hl:cs.length=len*k):Src P N H L k (.slice (some ⟨b,0,none⟩) len cap) len cs:=by
 refine⟨hl,λw hm=>⟨by simp[BS],?_⟩⟩
 have :=run_loadCells_list (P:=P) w ⟨b,0,none⟩ cs (λj v hj=>by
   rw[Gv_,BD]
   exact hm.cellL hi hj)
 rw[hl] at this;exact sT
def By(P:Program)(t:TypeId)(b:Nat):Prop:=∀ w,∃ i,(typeInfo t).run P w = .ok i w/\i.bytes=b
def noInt:TypeDesc->Bool
 | .slice _=>true
 | .string=>true
 |_=>false
theorem setAt_app(f:List Value):∀ (vs cs:List Value) (off:Nat),Oq_ (f++cs) (f.length+off) vs=f++Oq_ cs off vs
 |[],_,_=>rfl
 |v::r,cs,off=>by
   have :=setAt_app f r (cs.set off v) (off+1)
   simp only[Oq_]
   rw[List.set_append_right _ _ qD,C9,C7,this]
theorem setAt_take:∀ (vs cs:List Value) (off:Nat),off+vs.length<=cs.length->(Oq_ cs off vs).take (off+vs.length)=cs.take off++vs
 |[],cs,off,_=>by simp[Oq_]
 |v::r,cs,off,h=>by
   simp only[A3] at h
   have :=setAt_take r (cs.set off v) (off+1) qQ
   simp only[Oq_,A3]
   rw[show off+(r.length+1)=off+1+r.length by omega,this]
   rw[CR,DD (BF _)]
   have hlt:off<cs.length:=by omega
   simp[hlt]
set_option maxHeartbeats 2000000 in
theorem app_room{k len m cap:Nat}{e ats:TypeId}{d2:TypeDesc}{sv:Value}{base:Option Addr}{w:World}(hT:P.underlying T=some (.slice e))(hT2:P.underlying T2=some d2)(hd2:noInt d2=true)(hk:Sz P e k)(hlen:(Builtin.lenOf sv).run P w = .ok m w)(hle:len+m<=cap) :
   (Builtin.append_ #[T,T2] ats #[.slice base len cap,sv]).run P w =
     (do
       let new <- Builtin.firstCells k m sv
       if let some a:=base then storeCells (a.add (len*k)) new.toList
       pure (.slice base (len+m) cap):Sem Value).run P w:=by
 cases d2<;>first
   |(simp[noInt] at hd2;done)
   |(cases base<;>simp[CD,run_underlying hT,run_underlying hT2,hk w,hlen,hle])
set_option maxHeartbeats 2000000 in
theorem app_grow{k len m cap:Nat}{e ats:TypeId}{d2:TypeDesc}{sv:Value}{base:Option Addr}{w:World}{inf:TypeInfo}(hT:P.underlying T=some (.slice e))(hT2:P.underlying T2=some d2)(hd2:noInt d2=true)(hk:Sz P e k)(hlen:(Builtin.lenOf sv).run P w = .ok m w)(hle:¬len+m<=cap)
   (hinf:(typeInfo e).run P w = .ok inf w) (hb0:¬inf.bytes=0) (hf:¬(281474976710656<Builtin.nextslicecap (len+m) cap*inf.bytes)) :
   (Builtin.append_ #[T,T2] ats #[.slice base len cap,sv]).run P w =
     (do
       let newCap <- choose (.appendCap (len+m) cap e)
       askRoom (newCap*(<- typeInfo e).bytes)
       let old <- Builtin.firstCells k len (.slice base len cap)
       let new <- Builtin.firstCells k m sv
       let rest:=Builtin.zeroCells (<- zeroValue e).cells (newCap-(len+m))
       pure (.slice (some (<- newRow e (old++new++rest))) (len+m) newCap):Sem Value).run P w:=by
 cases d2<;>first
   |(simp[noInt] at hd2;done)
   |(simp[CD,run_underlying hT,run_underlying hT2,hk w,hlen,hle,hinf,hb0,hf])
theorem op1_app{k bytes len m:Nat}{e:TypeId}{d2:TypeDesc}{v sv:Value}{zs cs news:List Value}(i:Nat)(hx:ev F x=v)(hy:ev F y=sv)(hT:P.underlying T=some (.slice e))(hT2:P.underlying T2=some d2)(hd2:noInt d2=true)(hk:Sz P e k)(hb:By P e bytes)(h0:0<bytes)
   (hz:Zr P e zs) (ho:OwnV k e v (L i) len cs) (hs:Src P N H L k sv m news) (hone:∀ u∈news,u.oneCell'=true) (hzl:zs.length=k) (hbd:(len+m)*bytes<=140737488355328) (hd:Nat.blt d n=true)
   (kk:∀ v' en',OwnV k e v' en' (len+m) (cs++news)->K (upd F d v') H (lupd L i en')):Op1 P n N ops ⟨some d, .call ⟨.builtin .append,#[x,y],#[T,T2]⟩,ty,pos,af,none⟩ K F H L:=by
 intro a w ha hm;rw[if_pos qM];unfold BJ;have⟨hcl,hown⟩:=ho;have hsz:len+m<=(len+m)*bytes:=Nat.le_mul_of_pos_right _ h0
 suffices hr:∃ v' en' w',(∀ ats,(CD #[T,T2] ats #[v,sv]).run P w = .ok v' w')/\OwnV k e v' en' (len+m) (cs++news)/\Mem N H (lupd L i en') w' by
   have⟨v',en',w',h1,h2,h3⟩:=hr
   have :(execOp a.eval ⟨some d, .call ⟨.builtin .append,#[x,y],#[T,T2]⟩,ty,pos,af,none⟩).run P w = .ok (.value v') w':=by
     rw[ha.eval]
     refine Gd_ (args:=#[v,sv]) pM λcs=>?_
     simp[builtin,h1]
   rw[this]
   exact⟨_,H,_,ha.put qO _,h3,kk v' en' h2⟩
 have⟨inf,hinf,hbb⟩:=hb w;have⟨hlen,hcells⟩:=hs.2 w hm;have hb0:¬inf.bytes=0:=by omega
 have hroom:∀ (ats:TypeId) (base:Option Addr) (cap:Nat),len+m<=cap->(CD #[T,T2] ats #[.slice base len cap,sv]).run P w =
     (do
       let new <- AK k m sv
       if let some a:=base then storeCells (a.add (len*k)) new.toList
       pure (.slice base (len+m) cap):Sem Value).run P w:=λats base cap hle=>app_room hT hT2 hd2 hk hlen hle
 have hgrow:∀ (ats:TypeId) (base:Option Addr) (cap:Nat),¬len+m<=cap->(CD #[T,T2] ats #[.slice base len cap,sv]).run P w =
     (do
       let newCap <- choose (.appendCap (len+m) cap e)
       askRoom (newCap*(<- typeInfo e).bytes)
       let old <- AK k len (.slice base len cap)
       let new <- AK k m sv
       let rest:=AR (<- zeroValue e).cells (newCap-(len+m))
       pure (.slice (some (<- newRow e (old++new++rest))) (len+m) newCap):Sem Value).run P w:=λats base cap hle=>by
   have hfit:=growslice_fits (need:=len+m) (old:=cap) (bytes:=bytes) qD hbd
   exact app_grow hT hT2 hd2 hk hlen hle hinf hb0 (by rw[hbb];omega)
 rcases hown with ⟨rfl,rfl,hL⟩|⟨b,cap,c,f,rfl,hL,hcl2,hle,htk,hff⟩
 have hcs:cs=[]:=List.length_eq_zero_iff.1 (by simpa using hcl);subst hcs;simp only[BD] at hgrow hroom hbd ⊢;by_cases hm0:m=0;subst hm0;have hn:news=[]:=List.length_eq_zero_iff.1 (by simpa using hs.1);subst hn;refine⟨.slice none 0 0,none,w,λats=>?_,by simpa using O6_,?_⟩;rw[hroom _ _ _ qD];simp[hcells];exact hm.clear i;obtain⟨nc,hnc⟩:∃ nc,nc=(BI m 0 e).cut (w.tape w.drawn (BI m 0 e)):=⟨_,rfl⟩;have hnge:m<=nc:=by rw[hnc];simp only[E8];omega
 refine⟨.slice (some ⟨w.heap.size,0,none⟩) m nc,some (w.heap.size,bx e (news++(AR zs.toArray (nc-m)).toList)),_,λats=>?_,⟨by simp[hs.1], .inr ⟨_,_,news++(AR zs.toArray (nc-m)).toList,[],rfl,rfl,FM ?_,?_,?_,λ_=>rfl⟩⟩,(hm.drew (w.drawn+1)).push i _⟩;rw[hgrow _ _ _ qD];have⟨z,hz1,hz2⟩:=hz w.drew;have⟨inf',hinf',_⟩:=hb w.drew;have⟨_,hcells'⟩:=hs.2 w.drew (hm.drew (w.drawn+1));have hq:(BI m 0 e).forced=false:=rfl;have hnil:(AK k 0 (.slice none 0 0)).run P w.drew = .ok #[] w.drew:=by simp[AK]
 simp[hq,hinf',hcells',hz1,hz2,newRow,bx,hnil,<- hnc];exact tS;have hzc:∀ q,(AR zs.toArray q).size=q*k:=λq=>by simp[AR,hzl]
 simp only[A1,DE,hzc,hs.1];rw[<- B7];exact zD;exact hnge;rw[AV,show m*k=news.length by rw[hs.1]];exact G6;by_cases hfit:len+m<=cap;have hnl:=hs.1;have hle2:len*k+news.length<=c.length:=by
   rw[hnl,<- B7];exact AZ (BQ k hfit) hcl2
 have⟨w',L',e1,e2,e3,e4⟩:=Mem.storeA (P:=P) b i (f.length+len*k) news (f++c) 0 L w hm hL qQ hone;have hLL:L'=lupd L i (some (b,bx e (f++Oq_ c (len*k) news))):=funext λq=>by
   by_cases e':q=i
   . subst e';rw[Co_,e4,E4,setAt_app]
   . rw[Ci_ e',e3 q e']
 subst hLL;refine⟨.slice (some ⟨b,f.length,none⟩) (len+m) cap,_,w',λats=>?_,⟨by simp[hcl,hnl,B7], .inr ⟨b,cap,Oq_ c (len*k) news,f,rfl,rfl,by rw[Vg_];exact hcl2,hfit,?_,hff⟩⟩,e2⟩;rw[hroom _ _ _ hfit];simp[hcells,Gv_,e1];rw[B7,<- hnl,setAt_take _ _ _ qD,htk];obtain⟨nc,hnc⟩:∃ nc,nc=(BI (len+m) cap e).cut (w.tape w.drawn (BI (len+m) cap e)):=⟨_,rfl⟩;have hnge:len+m<=nc:=by rw[hnc];simp only[E8];omega
 refine⟨.slice (some ⟨w.heap.size,0,none⟩) (len+m) nc,some (w.heap.size,bx e (cs++news++(AR zs.toArray (nc-(len+m))).toList)),_,λats=>?_,⟨by simp[hcl,hs.1,B7], .inr ⟨_,_,cs++news++(AR zs.toArray (nc-(len+m))).toList,[],rfl,rfl,FM ?_,?_,?_,λ_=>rfl⟩⟩,(hm.drew (w.drawn+1)).push i _⟩;rw[hgrow _ _ _ hfit];have⟨z,hz1,hz2⟩:=hz w.drew;have⟨inf',hinf',_⟩:=hb w.drew;have⟨_,hcells'⟩:=hs.2 w.drew (hm.drew (w.drawn+1));have hold0:(loadCells ⟨b,f.length,none⟩ (len*k)).run P w.drew = .ok cs.toArray w.drew:=by
   have :=run_loadCells_list (P:=P) w.drew ⟨b,f.length,none⟩ cs (λj v hj=>by
     rw[Gv_]
     refine Mem.cellL (w:=w.drew) (hm.drew (w.drawn+1)) hL ?_
     rw[BB qD,C9]
     rw[<- htk,BA] at hj
     split at hj
     . exact hj
     . cases hj)
   rwa [hcl] at this
 have hq:(BI (len+m) cap e).forced=false:=rfl;have hold:(AK k len (.slice (some ⟨b,f.length,none⟩) len cap)).run P w.drew = .ok cs.toArray w.drew:=by simpa [AK] using hold0
 simp[hq,hinf',hcells',hz1,hz2,newRow,bx,hold,<- hnc];exact tS;have hzc:∀ q,(AR zs.toArray q).size=q*k:=λq=>by simp[AR,hzl]
 simp only[A1,DE,hzc,hs.1,hcl];rw[<- B7,<- B7];exact zD;exact hnge;rw[show (len+m)*k=(cs++news).length by simp[hcl,hs.1,B7]];exact G6
end Go.SW
namespace Go.SW
variable{P:Program}{n:Nat}{N:Rest}{F:Fr}{H:Hp}{L:Ls}{ty T T' T2:TypeId}{x y z:Operand}
variable{ops:List Oper}{op:Op}{d:Nat}{pos:String}{af:Array Edge}{K:Fr->Hp->Ls->Prop}
def u8v(c:UInt8):Value:= .int .u8 c.toNat
def u8E:Hp->UInt8->List Value->Prop:=λ_ c cs=>cs=[u8v c]
def FE{α:Type}(enc:α->List Value)(wf:α->Prop):Hp->α->List Value->Prop:=λ_ x cs=>cs=enc x/\wf x
theorem Mem.pushH{w:World}(h:Mem N H L w)(o:Obj):Mem N (hadd H w.heap.size o) L {w with heap:=w.heap.push o}/\HLe H (hadd H w.heap.size o):=by
 have hb:∀ (b:Nat) o',w.heap[b]? = some o'->b<w.heap.size:=λb o' x=>by
   grind
 have hk:∀ (b:Nat) o',w.heap[b]? = some o'->(w.heap.push o)[b]? = some o':=λb o' x=>by
   grind
 have hH:H w.heap.size=none:=by
   cases q:H w.heap.size with
   |none=>rfl
   |some o1=>have :=hb _ _ (h.h _ _ q);omega
 refine⟨⟨h.os,h.tape,h.output,λb o' x=>hk _ _ (h.n b o' x),λb o' x=>?_,λi b o' x=>hk _ _ (h.l i b o' x),λb o' x=>?_,λi b o' x=>⟨(h.nl i b o' x).1,?_⟩,h.ll⟩,hadd_le hH⟩;by_cases e:b=w.heap.size;subst e;simp[hadd] at x;subst x;simp;simp[hadd,e] at x;exact hk _ _ (h.h b o' x);have :=hb b o' (h.n b o' x);have e:b≠w.heap.size:=by omega
 simp[hadd,e];exact h.nh b o' x;have :=hb b o' (h.l i b o' x);have e:b≠w.heap.size:=by omega
 simp[hadd,e];exact (h.nl i b o' x).2
theorem op1_s2b{e:TypeId}{a:Bs}(hx:ev F x=str a)(hT:P.underlying T=some .string)(hT':P.underlying T'=some (.slice e))(he:P.underlying e=some (.int .u8))(hd:Nat.blt d n=true)
   (k:∀ b cap H',HLe H H'->SlH u8E 1 H' (.slice (some ⟨b,0,none⟩) a.length cap) a->K (upd F d (.slice (some ⟨b,0,none⟩) a.length cap)) H' L):Op1 P n N ops ⟨some d, .convert T T' x,ty,pos,af,none⟩ K F H L:=by
 intro ac w ha hm;rw[if_pos qM];unfold BJ;have hs:=run_bytes_of_string (P:=P) w T T' e ⟨a.toArray⟩ hT hT' he;rw[Ko_] at hs;obtain⟨q,hq⟩:∃ q,q=grownCap w a.length 0 e:=⟨_,rfl⟩;rw[<- hq] at hs;obtain⟨o,ho⟩:∃ o,o=Obj.cells (bytesRow ⟨a.toArray⟩ q) e ((bytesRow ⟨a.toArray⟩ q).size,(bytesRow ⟨a.toArray⟩ q).size+1):=⟨_,rfl⟩;rw[<- ho] at hs;have h1:(execOp ac.eval ⟨some d, .convert T T' x,ty,pos,af,none⟩).run P w = .ok (.value (.slice (some ⟨w.heap.size,0,none⟩) a.length q)) {w.drew with heap:=w.heap.push o}:=by
   rw[ha.eval]
   simp[execOp,hx,str,hs]
   rfl
 rw[h1];have⟨hm',hl⟩:=(Mem.drew hm (w.drawn+1)).pushH o;refine⟨_,_,L,ha.put qO _,hm',k _ _ _ hl ⟨⟨_,_,rfl,by rw[hq];simp[grownCap,E8]⟩,λm hmm=>⟨[u8v a[m]],rfl,w.heap.size,0,a.length,q,bytesRow ⟨a.toArray⟩ q,e,((bytesRow ⟨a.toArray⟩ q).size,(bytesRow ⟨a.toArray⟩ q).size+1),rfl,?_,rfl,λj hj=>?_⟩⟩⟩;subst ho;simp[hadd];obtain rfl :j=0:=by omega
 simp only[bytesRow,BD,GY,E4];rw[Array.getElem?_append_left (by simpa using hmm)];simp[hmm,u8v]
theorem u8v_of{z:Int}(h0:0<=z)(h1:z<=255):u8v (UInt8.ofNat z.toNat) = .int .u8 z:=by
 unfold u8v;rw[UInt8.toNat_ofNat'];grind
theorem Zy_{k len e:Nat}{v:Value}{en:Option (Nat×Obj)}{cs:List Value}{e':TypeId}(hx:ev F x=v)(ho:OwnV k e v en len cs)(hT:P.underlying T=some (.slice e')):Lo P N (.call ⟨.builtin .len,#[x],#[T]⟩) ty F H L (.int .i64 len):=by
 obtain⟨_,⟨rfl,rfl,_⟩|⟨b,cap,c,f,rfl,_⟩⟩:=ho;exact Tm_ hx hT;exact Tm_ hx hT
def usd:Value->Value
 | .slice (some a) _ _=> .pointer (some a)
 |_=> .pointer none
theorem lo_usd{k len e:Nat}{v:Value}{en:Option (Nat×Obj)}{cs:List Value}{ats:Array TypeId}(hx:ev F x=v)(ho:OwnV k e v en len cs)(h0:len=0->v = .slice none 0 0):Lo P N (.call ⟨.builtin .unsafeSliceData,#[x],ats⟩) ty F H L (usd v):=λd pos af g w _=>by
 refine Gd_ (args:=#[v]) pC λcs=>?_
 obtain⟨_,⟨rfl,rfl,_⟩|⟨b,cap,c,f,rfl,_,_,hle,_⟩⟩:=ho
 . simp[builtin,Lib.run_unsafeSliceData_nil,usd]
 . have :cap≠0:=λe=>by
     subst e
     have :=h0 qD
     cases this
   simp[builtin,Lib.run_unsafeSliceData_row _ _ _ _ _ _ this,usd]
theorem op1_ustr{e T1 T3:TypeId}{v:Value}{l:Bs}(i:Nat)(hx:ev F x=usd v)(hy:ev F y = .int .i64 l.length)(hT:P.underlying T1=some (.pointer e))(hc:P.cellsOf e=1)(ho:OwnV 1 e v (L i) l.length (l.map u8v))(h0:l.length=0->v = .slice none 0 0)(h63:l.length<=9223372036854775807)(hd:Nat.blt d n=true)
   (k:K (upd F d (str l)) H (lupd L i none)):Op1 P n N ops ⟨some d, .call ⟨.builtin .unsafeString,#[x,y],#[T1,T3]⟩,ty,pos,af,none⟩ K F H L:=by
 intro ac w ha hm;rw[if_pos qM];unfold BJ
 rcases ho with ⟨_,⟨rfl,hl,_⟩|⟨b,cap,c,f,rfl,hL,hcl,hle,htk,hff⟩⟩
 have hln:l=[]:=List.length_eq_zero_iff.1 hl;subst hln;have :(execOp ac.eval ⟨some d, .call ⟨.builtin .unsafeString,#[x,y],#[T1,T3]⟩,ty,pos,af,none⟩).run P w = .ok (.value (str [])) w:=by
   rw[ha.eval]
   refine Gd_ (args:=#[.pointer none, .int .i64 0]) (by simp[hx,hy,usd]) λcs=>?_
   have :=Lib.run_unsafeString_none (P:=P) (w:=w) T1 T3 ty none
   simp[builtin,this,str]
   rfl
 rw[this];exact⟨_,H,_,ha.put qO _,hm.clear i,k⟩
 . have hl0:l≠[]:=λq=>by subst q;have :=h0 Z;cases this
   obtain rfl :=hff Z
   simp only[AV,List.length_nil] at *
   have hb:=hm.l i b _ hL
   have this :(execOp ac.eval ⟨some d, .call ⟨.builtin .unsafeString,#[x,y],#[T1,T3]⟩,ty,pos,af,none⟩).run P w = .ok (.value (str l)) (w.freeze ⟨b,0,none⟩ l.length):=by
     rw[ha.eval]
     refine Gd_ (args:=#[.pointer (some ⟨b,0,none⟩), .int .i64 l.length]) (by simp[hx,hy,usd]) λcs=>?_
     have :=Lib.run_unsafeString_row (P:=P) (w:=w) T1 T3 ty e hT hc b c.length (by simp [EQ,hb,bx]) l hl0 (by simp at hcl;omega) h63 (λj q hj=>by
       rw[Gv_,BD]
       refine hm.cellL hL ?_
       have hjl:j<l.length:=(List.getElem?_eq_some_iff.1 hj).1
       have h2:=congrArg (λr:List Value=>r[j]?) htk
       simp only[GY,BA,hjl,if_true,B8,hj,BT] at h2
       exact h2)
     simp[builtin,this,str]
   rw[this]
   refine⟨_,H,_,ha.put qO _,?_,k⟩
   have hln:l.length≠0:=by simpa using hl0
   obtain⟨o',ho'⟩:∃ o',(w.freeze ⟨b,0,none⟩ l.length).heap[b]? = some o':=by
     simp[GF,hln,CA,hb,bx]
   have hset:=hm.set (w':=w.freeze ⟨b,0,none⟩ l.length) (o':=o') hL oS oS oS ho' (λc' o hne hq=>by
     simp only[GF,hln,if_false,CA]
     rw[if_neg (λq=>hne q.symm)];exact hq)
   have :=hset.clear i
   have heq:lupd (lupd L i (some (b,o'))) i none=lupd L i none:=funext λj=>by
     by_cases q:j=i
     . subst q;rw[Co_,Co_]
     . rw[Ci_ q,Ci_ q,Ci_ q]
   rwa [heq] at this
theorem Xv_{p:Addr}{e:TypeId}{j:TypeInfo}(hx:ev F x = .pointer (some p))(hy:ev F y = .pointer (some p))(hT:P.underlying T=some (.pointer e))(he:P.info? e=some j):Lo P N (.binOp .neq T x y T') ty F H L (.bool false):=
 Hn_ hx hy (λw=>Ox_ w) λw=>Lib.run_neq_ptr_same w p hT he
theorem lo_pnil{e:TypeId}(hx:ev F x = .pointer none)(hy:ev F y = .pointer none)(hT:P.underlying T=some (.pointer e)):Lo P N (.binOp .eql T x y T') ty F H L (.bool true):=
 Hn_ hx hy (λw=>Ox_ w) λw=>by
   have h:∀ d,(D7 (d+1) T (.pointer none) (.pointer none)).run P w = .ok true w:=λd=>by simp[D7,run_underlying hT]
   simp[binOp,Oz_ h]
theorem Xy_{b i:Nat}{t e:TypeId}{j:TypeInfo}{cs:List Value}(hx:ev F x = .pointer (some ⟨b,0,none⟩))(hi:L i=some (b,bx e cs))(hcs':Nat.blt 0 cs.length=true)(hs:P.underlying T=some (.pointer t))(hd:P.underlying T'=some .unsafePointer)(ht:P.info? t=some j)(hj:j.size≠0):Lo P N (.convert T T' x) ty F H L (.pointer (some ⟨b,0,none⟩)):=λd pos af g w hm=>by
 have hb:=hm.l i b _ hi
 have hcs:0<cs.length:=by simpa using hcs'
 have :=Lib.run_to_unsafe (P:=P) w (e:=e) (cells:=cs.length) ⟨b,0,none⟩ hs hd ht hj (by simp[EQ,hb,bx]) hcs
 simp[execOp,hx,this]
theorem Tl_{b i:Nat}{u e:TypeId}{j:TypeInfo}{cs:List Value}(hx:ev F x = .pointer (some ⟨b,0,none⟩))(hi:L i=some (b,bx e cs))(hs:P.underlying T=some .unsafePointer)(hd:P.underlying T'=some (.pointer u))(hu:P.info? u=some j)(hl:liesAt P P.depth e (cs.length/P.cellsOf e) 0 u 1=true):Lo P N (.convert T T' x) ty F H L (.pointer (some ⟨b,0,none⟩)):=λd pos af g w hm=>by
 have hb:=hm.l i b _ hi
 have :=Lib.run_from_unsafe (P:=P) w (e:=e) (cells:=cs.length) ⟨b,0,none⟩ hs hd hu (by simp[EQ,hb,bx]) hl
 simp[execOp,hx,this]
def NoEsc(P:Program)(f:FuncId):Prop:=∀ v w,(callFunc f #[v]).run P w = .ok (.value v) w
theorem noEsc_of{f:FuncId}{fn:Func}(hf:P.funcs[f]? = some fn)(hname:(fn.name == "runtime.NumGoroutine")=false)(hb:fn.body.isNone=true)(hn:Extern.findNext fn=none)(he:Extern.find fn=some Extern.AbiNoEscape.same):NoEsc P f:=λv w=>by
 rw[run_callFunc_extern hf hname hb hn he];rw[Lib.run_noEscape];rfl
theorem lo_noEsc{f:FuncId}{v:Value}{ats:Array TypeId}(hf:NoEsc P f)(hx:ev F x=v):Lo P N (.call ⟨.value (.func f),#[x],ats⟩) ty F H L v:=λd pos af g w _=>by
 subst hx
 have :=hf (ev F x) w
 have e:ev F (.func f) = .func (.func f) #[] #[]:=rfl
 simp[execOp,resolve,F7,e,invoke,this]
theorem lo_gidx{kk:IntKind}{g len k m:Nat}{i:Int}{e:TypeId}(hy:ev F y = .int kk i)(hT:P.underlying T=some (.array len e))(hk:Sz P e k)(hi:i=(m:Int))(hm:m<len):Lo P N (.indexAddr T (.global g) y) ty F H L (.pointer (some ⟨g,m*k,none⟩)):=λd pos af gg w _=>by
 subst hi
 have h2:ev F (.global g) = .pointer (some ⟨g,0,none⟩):=rfl
 simp[execOp,hy,h2,G3,asIntOf,run_underlying hT,D9,hk w,hm,Gv_]
theorem cw_anyX{id:Nat}{l:List Oper}{Q:Qt}(i:Nat)(hmx:P.follows .mixedOrders=true)(h:Vw P n N l (lupd L i none) Q l.length (Array.replicate l.length false) F H L):Cw P n N (.region id l.toArray true) Q F H L:=cw_any hmx (lupd L i none) h
theorem Hu_{L:Ls}{i:Nat}:LLe (lupd L i none) L:=λj w hw=>by
 by_cases e:j=i
 . subst e;rw[Co_] at hw;cases hw
 . rwa [Ci_ e] at hw
theorem Lw_{A B:Ls}{i:Nat}{v:Option (Nat×Obj)}(h:LLe A B)(hi:A i=none):LLe A (lupd B i v):=λj w hw=>by
 have :j≠i:=λe=>by subst e;rw[hi] at hw;cases hw
 rw[Ci_ this];exact h j w hw
theorem lupd_eta{L:Ls}{i:Nat}{v:Option (Nat×Obj)}(h:L i=v):lupd L i v=L:=funext λj=>by
 by_cases e:j=i
 . subst e;rw[Co_,h]
 . rw[Ci_ e]
theorem exInfo{t:TypeId}(h:(P.info? t).map (λi=>decide (i.size=0))=some false):∃ j,P.info? t=some j/\j.size≠0:=by
 simp_all
theorem by_of{t b:Nat}(h:(P.info? t).map (·.bytes)=some b):By P t b:=λw=>by
 cases e:P.info? t with
 |none=>rw[e] at h;cases h
 |some j=>rw[e] at h;simp at h;exact⟨j,by simp[typeInfo,e],h⟩
theorem ownV_one{k e len:Nat}{v:Value}{en:Option (Nat×Obj)}{cs:List Value}(h:OwnV k e v en len cs):v.oneCell'=true:=by
 obtain⟨_,⟨rfl,_⟩|⟨b,cap,c,f,rfl,_⟩⟩:=h<;>rfl
theorem ownV_cast{k e len len':Nat}{v:Value}{en:Option (Nat×Obj)}{cs cs':List Value}(h:OwnV k e v en len cs)(hl:len=len')(hc:cs=cs'):OwnV k e v en len' cs':=by subst hl;subst hc;exact h
theorem nz_of{k e len:Nat}{v:Value}{en:Option (Nat×Obj)}{cs:List Value}(_:OwnV k e v en len cs)(h:0<len):len=0->v = .slice none 0 0:=λh0=>by omega
def strE:Hp->Bs->List Value->Prop:=FE (λs=>[str s]) (λs=>s.length<=9223372036854775807)
def GInt(H:Hp)(g:Nat):Prop:=∃ m T r,H g=some (.cells #[.int .i64 m] T r)
theorem GInt.mono{H H':Hp}{g:Nat}(h:GInt H g)(hl:HLe H H'):GInt H' g:=by
 have⟨m,T,r,e⟩:=h;exact⟨m,T,r,hl _ _ e⟩
theorem GInt.cell{H:Hp}{g:Nat}{N:Rest}{L:Ls}{w:World}(h:GInt H g)(hm:Mem N H L w):∃ m,w.cell? ⟨g,0,none⟩=some (.int .i64 m):=by
 have⟨m,T,r,e⟩:=h;have :=hm.h _ _ e;refine⟨m,?_⟩;simp[CE,this]
theorem ph_strs{f:FuncId}{args:Array Value}{H:Hp}{T:TypeId}{xs:List Bs}(hx:∀ s∈xs,s.length<=9223372036854775807)(h:∀ N L w,Mem N H L w->Calls P f args w λe w'=>e = .returned (.slice (some ⟨w.heap.size,0,none⟩) xs.length xs.length)/\w'=w.alloc (.cells (xs.map str).toArray T)) :
   Ph P f args H (λv H'=>∃ (a:Option Addr) (c:Nat),v = .slice a xs.length c/\SlH strE 1 H' (.slice a xs.length c) xs):=by
 intro N L w hm;refine (h N L w hm).mono λe w' ⟨he,hw⟩=>?_;have⟨hm',hl⟩:=Mem.pushH hm (.cells (xs.map str).toArray T);subst hw;refine⟨_,_,he,⟨_,_,rfl,⟨_,_,rfl,BF _⟩,λm hmm=>⟨[str xs[m]],⟨rfl,hx _ (List.getElem_mem hmm)⟩,w.heap.size,0,xs.length,xs.length,(xs.map str).toArray,T,(0,0),rfl,?_,rfl,λj hj=>?_⟩⟩,hl,hm'⟩;simp[hadd];grind
theorem slh_nil{α:Type}{E:Hp->α->List Value->Prop}{k:Nat}{H:Hp}:SlH E k H (.slice none 0 0) []:=⟨⟨_,_,rfl,AT _⟩,λm h=>by cases h⟩
variable{α:Type}
def slA(a:Option Addr)(c l k:Nat):Option Addr:=if c=l then a else a.map (·.add (l*k))
theorem slh_sub{E:Hp->α->List Value->Prop}{k m q:Nat}{a:Option Addr}{c l:Nat}{xs:List α}(h:SlH E k H (.slice a l c) xs)(h1:m<=q)(h2:q<=xs.length) :
   SlH E k H (.slice (slA a c m k) (q-m) (c-m)) ((xs.drop m).take (q-m)):=by
 have⟨⟨a',c',e,hc⟩,hx⟩:=h
 cases e
 have hl:((xs.drop m).take (q-m)).length=q-m:=by simp;omega
 refine⟨⟨_,_,by rw[hl],by omega⟩,λj hj=>?_⟩;rw[hl] at hj;have hj2:m+j<xs.length:=by omega
 have⟨cs,hE,b,off,l',cap,cc,T,fr,e1,e2,e3,e4⟩:=hx (m+j) hj2;have he:((xs.drop m).take (q-m))[j]'(by rw[hl];exact hj)=xs[m+j]:=by simp
 rw[he]
 cases e1
 refine⟨cs,hE,b,off+m*k,q-m,c-m,cc,T,fr,?_,e2,e3,λi hi=>?_⟩;have :c≠m:=by omega
 simp[slA,this,Gv_];grind
theorem slh_take{E:Hp->α->List Value->Prop}{k q:Nat}{a:Option Addr}{c l:Nat}{xs:List α}(h:SlH E k H (.slice a l c) xs)(h2:q<=xs.length):SlH E k H (.slice (slA a c 0 k) q c) (xs.take q):=by
 simpa using slh_sub (m:=0) h (AT _) h2
theorem slh_drop{E:Hp->α->List Value->Prop}{k m:Nat}{a:Option Addr}{c l:Nat}{xs:List α}(h:SlH E k H (.slice a l c) xs)(h2:m<=xs.length):SlH E k H (.slice (slA a c m k) (l-m) (c-m)) (xs.drop m):=by
 have⟨⟨a',c',e,hc⟩,hx⟩:=h
 cases e
 have :=slh_sub (m:=m) (q:=xs.length) (⟨⟨a,c,rfl,hc⟩,hx⟩:SlH E k H (.slice a xs.length c) xs) h2 (BF _)
 rwa [AD qI] at this
theorem P2_{k':IntKind}{j:Int}{hi:Operand}{a:Option Addr}{l c k:Nat}{e:TypeId}(q:Nat)(hx:ev F x = .slice a l c)(hhi:ev F hi = .int k' j)(hT:P.underlying T=some (.slice e))(hk:Sz P e k)(h0:j=(q:Int))(h2:q<=c) :
   Lo P N (.slice T x none (some hi) none) ty F H L (.slice (slA a c 0 k) q c):=λd pos af g w _=>by
 subst h0
 simp[execOp,CB,CN,BV,C0,hx,hhi,run_underlying hT,asIntOf,h2,hk w,slA]
theorem M1_{k':IntKind}{i:Int}{lo:Operand}{a:Option Addr}{l c k:Nat}{e:TypeId}(m:Nat)(hx:ev F x = .slice a l c)(hlo:ev F lo = .int k' i)(hT:P.underlying T=some (.slice e))(hk:Sz P e k)(h0:i=(m:Int))(h2:m<=l) :
   Lo P N (.slice T x (some lo) none none) ty F H L (.slice (slA a c m k) (l-m) (c-m)):=λd pos af g w _=>by
 subst h0
 simp[execOp,CB,CN,BV,C0,hx,hlo,run_underlying hT,asIntOf,h2,hk w,slA]
theorem lo_slice_slh{k' k2:IntKind}{i j:Int}{lo hi:Operand}{a:Option Addr}{l c k:Nat}{e:TypeId}(m q:Nat)(hx:ev F x = .slice a l c)(hlo:ev F lo = .int k' i)(hhi:ev F hi = .int k2 j)(hT:P.underlying T=some (.slice e))(hk:Sz P e k)(h0:i=(m:Int))(hq:j=(q:Int))(h1:m<=q)(h2:q<=c) :
   Lo P N (.slice T x (some lo) (some hi) none) ty F H L (.slice (slA a c m k) (q-m) (c-m)):=λd pos af g w _=>by
 subst h0;subst hq
 simp[execOp,CB,CN,BV,C0,hx,hlo,hhi,run_underlying hT,asIntOf,h1,h2,hk w,slA]
def scK(Q:Qt):Qt:=λe F H L=>
 match e with
 | .goto _=>False
 |e=>Q e F H L
theorem cw_scope{c:Code}{Q:Qt}(h:Cw P n N c (scK Q) F H L):Cw P n N (.scope c) Q F H L:=by
 intro a w ha hm;refine wp_scope_straight (wp_mono (h a w ha hm) λe a' w' q=>?_);have⟨F',H',L',ha',hm',hq⟩:=q
 cases e<;>first|exact hq.elim|exact⟨F',H',L',ha',hm',hq⟩
theorem Mem.giveO{w:World}{i:Nat}{en:Option (Nat×Obj)}(hm:Mem N H L w)(hi:L i=en):∃ H',HLe H H'/\(∀ b o,en=some (b,o)->H' b=some o)/\Mem N H' (lupd L i none) w:=by
 cases en with
 |none=>exact⟨H, .refl _,λ_ _ h=>qS,hm.clear i⟩
 |some p=>
   have⟨b,o⟩:=p
   have⟨h1,h2⟩:=hm.give hi
   exact⟨_,h2,λb' o' e=>by cases e;simp[hadd],h1⟩
theorem cw_giveO{c:Code}{Q:Qt}{en:Option (Nat×Obj)}(i:Nat)(hi:L i=en)(k:∀ H',HLe H H'->(∀ b o,en=some (b,o)->H' b=some o)->Cw P n N c Q F H' (lupd L i none)):Cw P n N c Q F H L:=λa w ha hm=>
 let ⟨_,h1,h2,h3⟩:=hm.giveO hi;k _ h1 h2 a w ha h3
theorem ow_giveO{rest:List Oper}{Q:Qt}{en:Option (Nat×Obj)}(i:Nat)(hi:L i=en)(k:∀ H',HLe H H'->(∀ b o,en=some (b,o)->H' b=some o)->Ow P n N ops rest Q F H' (lupd L i none)):Ow P n N ops rest Q F H L:=λa w ha hm=>
 let ⟨_,h1,h2,h3⟩:=hm.giveO hi;k _ h1 h2 a w ha h3
def EqV(P:Program)(d:Nat)(t:TypeId)(u v:Value)(r:Bool):Prop:=∀ w,(D7 d t u v).run P w = .ok r w
def EqF(P:Program)(d:Nat)(xs ys:List Value)(fs:List Field)(r:Bool):Prop:=∀ w,(H4 d xs.toArray ys.toArray fs).run P w = .ok r w
theorem EqV.to'{d:Nat}{t:TypeId}{u v:Value}{r r':Bool}(h:EqV P d t u v r)(e:r=r'):EqV P d t u v r':=e ▸ h
theorem Dz_{d:Nat}{t:TypeId}{k k':IntKind}{a b:Int}(h:P.underlying t=some (.int k')):EqV P (d+1) t (.int k a) (.int k b) (decide (a=b)):=λw=>by
 rw[run_equalIn_int w d t k k' a b h];rfl
theorem Rq_{d:Nat}{t:TypeId}{a b:Bs}(h:P.underlying t=some .string):EqV P (d+1) t (str a) (str b) (decide (a=b)):=λw=>by
 unfold str
 rw[run_equalIn_string w d t _ _ h,Pp_,Pp_,Xs_]
theorem Lb_{d:Nat}{t:TypeId}{fs:Array Field}{xs ys:List Value}{r:Bool}(hu:P.underlying t=some (.struct fs))(h:EqF P d xs ys fs.toList r)(hp:P.stoodInHeld t=false:=by exact qE):EqV P (d+1) t (.agg xs.toArray) (.agg ys.toArray) r:=λw=>by
 have hf:P.fieldsOf t=fs:=by simp[Program.fieldsOf,hu]
 rw[run_equalIn_agg w d t _ _ (by rw[hf];exact hu) hp,hf]
 exact h w
theorem La_{d:Nat}{xs ys:List Value}:EqF P d xs ys [] true:=λw=>by simp[H4]
theorem eqf_step{d:Nat}{xs ys:List Value}{f:Field}{fs:List Field}{a b:Value}{r r':Bool}(hn:¬f.name = "_")(ha:∀ w,(part f.type xs.toArray f.offset).run P w = .ok a w)(hb:∀ w,(part f.type ys.toArray f.offset).run P w = .ok b w)
   (h:EqV P d f.type a b r) (k:EqF P d xs ys fs r'):EqF P d xs ys (f::fs) (r&&r'):=λw=>by
 simp only[Op.eqFields,ne_eq,hn,not_false_eq_true,if_true,Sem.run_bind,ha w,Result.andThen_ok,hb w,h w]
 cases r
 . simp
 . simpa using k w
theorem part_1{t:TypeId}{xs:List Value}{o:Nat}{a:Value}(hg:Ag P t false)(hx:xs[o]? = some a)(w:World):(part t xs.toArray o).run P w = .ok a w:=by
 simp[part,hg w,hx]
theorem part_A{t:TypeId}{xs vs:List Value}{o k:Nat}(hg:Ag P t true)(hk:Sz P t k)(hx:sub xs o k=vs)(w:World):(part t xs.toArray o).run P w = .ok (.agg vs.toArray) w:=by
 subst hx;simp only[part,CC,hg w,DK,if_true,hk w,Sem.run_pure]
 congr 2
 rw[List.extract_toArray];simp[sub,List.extract_eq_take_drop]
theorem Jr_{d:Nat}{xs ys:List Value}{f:Field}{fs:List Field}{a b:Value}{r r':Bool}(hg:Ag P f.type false)(hx:xs[f.offset]? = some a)(hy:ys[f.offset]? = some b)(h:EqV P d f.type a b r)(k:EqF P d xs ys fs r')(hn:¬f.name = "_":=by exact qF):EqF P d xs ys (f::fs) (r&&r'):=
 eqf_step hn (part_1 hg hx) (part_1 hg hy) h k
theorem Wp_{op:BinOp}{u v:Array Value}(hm:P.eqGuardType P.depth T=false)(w:World):(eqGuard op T x y (.agg u) (.agg v)).run P w = .ok () w:=run_eqGuard_agg w op T x y u v hm
theorem lo_aeql{u v:Array Value}{r:Bool}(hx:ev F x = .agg u)(hy:ev F y = .agg v)(hm:P.eqGuardType P.depth T=false)(h:EqV P 10000 T (.agg u) (.agg v) r):Lo P N (.binOp .eql T x y T') ty F H L (.bool r):=
 Hn_ hx hy (Wp_ hm) λw=>by
   have :=h w
   simp[binOp,Op.equal,H6,this]
theorem lo_aneq{u v:Array Value}{r:Bool}(hx:ev F x = .agg u)(hy:ev F y = .agg v)(hm:P.eqGuardType P.depth T=false)(h:EqV P 10000 T (.agg u) (.agg v) r):Lo P N (.binOp .neq T x y T') ty F H L (.bool (!r)):=
 Hn_ hx hy (Wp_ hm) λw=>by
   have :=h w
   simp[binOp,Op.equal,H6,this]
end Go.SW
namespace Go.SW
variable{P:Program}{n:Nat}{N:Rest}{F:Fr}{H:Hp}{L:Ls}{ty d:Nat}{ops:List Oper}{op:Op}{pos:String}{af:Array Edge}{K:Fr->Hp->Ls->Prop}{f:FuncId}{args:Array Value}
theorem Mem.take{w w':World}{i b:Nat}{o:Obj}(hm:Mem N H L w)(hi:L i=some (b,o))(h':Mem N (hadd H b o) (lupd L i none) w'):Mem N H L w':=by
 have hn:=hm.nl i b o hi;refine⟨h'.os,h'.tape,h'.output,h'.n,λc x hx=>?_,λj c x hx=>?_,hm.nh,hm.nl,hm.ll⟩;exact h'.h c x (hadd_le hn.2 c x hx);by_cases e:j=i
 . subst e
   rw[hi] at hx;cases hx
   exact h'.h b o (by simp[hadd])
 exact h'.l j c x (by rw[Ci_ e];exact hx)
end Go.SW
namespace Go.SW
variable{P:Program}{n:Nat}{N:Rest}{F:Fr}{H:Hp}{L:Ls}{ty T T' T2:TypeId}{x y z:Operand}
variable{ops:List Oper}{op:Op}{d:Nat}{pos:String}{af:Array Edge}{K:Fr->Hp->Ls->Prop}{α:Type}
def Rl(E:Hp->α->List Value->Prop)(H:Hp):List α->List Value->Prop
 |[],cs=>cs=[]
 |x::xs,cs=>∃ c1 c2,cs=c1++c2/\E H x c1/\Rl E H xs c2
def Mono(E:Hp->α->List Value->Prop):Prop:=∀ H H' x cs,HLe H H'->E H x cs->E H' x cs
def Wide(E:Hp->α->List Value->Prop)(k:Nat):Prop:=∀ H x cs,E H x cs->cs.length=k/\∀ u∈cs,u.oneCell'=true
theorem Z9_{E:Hp->α->List Value->Prop}:Rl E H [] []:=rfl
theorem Rl.mono{E:Hp->α->List Value->Prop}(hE:Mono E){H':Hp}(hl:HLe H H'):∀ {xs:List α} {cs:List Value},Rl E H xs cs->Rl E H' xs cs
 |[],_,h=>h
 |_::_,_,⟨c1,c2,e,h1,h2⟩=>⟨c1,c2,e,hE _ _ _ _ hl h1,h2.mono hE hl⟩
theorem rl_app{E:Hp->α->List Value->Prop}:∀ {xs ys:List α} {cs ds:List Value},Rl E H xs cs->Rl E H ys ds->Rl E H (xs++ys) (cs++ds)
 |[],_,_,_,h,k=>by cases h;exact k
 |_::_,_,_,_,⟨c1,c2,e,h1,h2⟩,k=>⟨c1,c2++_,by rw[e,List.append_assoc],h1,rl_app h2 k⟩
theorem rl_len{E:Hp->α->List Value->Prop}{k:Nat}(hW:Wide E k):∀ {xs:List α} {cs:List Value},Rl E H xs cs->cs.length=xs.length*k
 |[],_,h=>by cases h;simp
 |_::_,_,⟨c1,c2,e,h1,h2⟩=>by rw[e,A1,(hW _ _ _ h1).1,rl_len hW h2,A3,B7,EE,Nat.add_comm]
theorem rl_one'{E:Hp->α->List Value->Prop}{k:Nat}(hW:Wide E k):∀ {xs:List α} {cs:List Value},Rl E H xs cs->∀ u∈cs,u.oneCell'=true
 |[],_,h=>by cases h;simp
 |_::_,_,⟨c1,c2,e,h1,h2⟩=>λu hu=>by
   rw[e] at hu
   rcases List.mem_append.1 hu with q|q
   . exact (hW _ _ _ h1).2 u q
   . exact rl_one' hW h2 u q
theorem rl_at{E:Hp->α->List Value->Prop}{k:Nat}(hW:Wide E k):∀ {xs:List α} {cs:List Value},Rl E H xs cs->∀ m (h:m<xs.length),∃ ds,E H xs[m] ds/\∀ j,j<k->cs[m*k+j]? = ds[j]?
 |[],_,_,_,h=>by cases h
 | x::xs,_,⟨c1,c2,e,h1,h2⟩,0,_=>⟨c1,h1,λj hj=>by
     rw[e,EF,BD,CT (by rw[(hW _ _ _ h1).1];exact hj)]⟩
 |x::xs,_,⟨c1,c2,e,h1,h2⟩,m+1,h=>by
   have⟨ds,p,q⟩:=rl_at hW h2 m pD
   refine⟨ds,p,λj hj=>?_⟩
   have hl:=(hW _ _ _ h1).1
   rw[e,BB oP,hl,show (m+1)*k+j-k=m*k+j by rw[B7];omega]
   exact q j hj
theorem slh_ownE{E:Hp->α->List Value->Prop}{k e:Nat}{v:Value}{en:Option (Nat×Obj)}{xs:List α}{cs:List Value}{H':Hp}(hW:Wide E k)(ho:OwnV k e v en xs.length cs)(hr:Rl E H' xs cs)(hH:∀ b o,en=some (b,o)->H' b=some o):SlH E k H' v xs:=by
 obtain⟨hl,⟨rfl,h0,_⟩|⟨b,cap,c,f,rfl,hL,hcl,hle,htk,hff⟩⟩:=ho;have :xs=[]:=List.length_eq_zero_iff.1 h0;subst this;exact⟨⟨_,_,rfl,AT _⟩,λm h=>by cases h⟩
 refine⟨⟨_,_,rfl,hle⟩,λm h=>?_⟩;have⟨ds,p,q⟩:=rl_at hW hr m h;refine⟨ds,p,b,f.length,xs.length,cap,(f++c).toArray,e,(0,0),rfl,hH b _ hL,(hW _ _ _ p).1,λj hj=>?_⟩;have hlt:m*k+j<xs.length*k:=by
   exact yH
 grind
theorem rl_of{E:Hp->α->List Value->Prop}{k:Nat}{sv:Value}:∀ (xs:List α) (m:Nat) (ys:List α),xs.length=m->(∀ i (h:i<ys.length),∃ cs,E H ys[i] cs/\SlAt H sv k (m+i) cs)->∃ ds,Rl E H ys ds/\(∀ (hW:Wide E k) i (h:i<ys.length),∃ cs,E H ys[i] cs/\SlAt H sv k (m+i) cs/\∀ j,j<k->ds[i*k+j]? = cs[j]?)
 |_,_,[],_,_=>⟨[],rfl,λ_ i h=>by cases h⟩
 |xs,m,y::ys,e,h=>by
   obtain⟨c0,p0,q0⟩:=h 0 qI
   obtain ⟨ds,r,s⟩:=rl_of (xs++[y]) (m+1) ys (by simp [e]) (λi hi=>by
     obtain⟨cs,p,q⟩:=h (i+1) (by simpa using hi)
     exact⟨cs,by simpa using p,by rw[show m+1+i=m+(i+1) by omega];exact q⟩)
   refine⟨c0++ds,⟨c0,ds,rfl,p0,r⟩,λhW i hi=>?_⟩
   cases i with
   |zero=>exact⟨c0,p0,q0,λj hj=>by rw[EF,BD,CT (by rw[(hW _ _ _ p0).1];exact hj)]⟩
   |succ i=>
     obtain⟨cs,p,q,t⟩:=s hW i (by simpa using hi)
     refine⟨cs,by simpa using p,by rw[show m+(i+1)=m+1+i by omega];exact q,λj hj=>?_⟩
     have hl:=(hW _ _ _ p0).1
     rw[BB oP,hl,show (i+1)*k+j-k=i*k+j by rw[B7];omega]
     exact t j hj
theorem src_slE{E:Hp->α->List Value->Prop}{k:Nat}{sv:Value}{xs:List α}(hW:Wide E k)(h:SlH E k H sv xs):∃ news,Rl E H xs news/\(∀ u∈news,u.oneCell'=true)/\∀ N L,Src P N H L k sv xs.length news:=by
 obtain ⟨ds,hr,hs⟩:=rl_of (H:=H) (k:=k) (sv:=sv) [] 0 xs Z (λi hi=>by
   obtain⟨cs,p,q⟩:=h.2 i hi
   exact⟨cs,p,by rw[BD];exact q⟩)
 have hlen:=rl_len hW hr;refine⟨ds,hr,rl_one' hW hr,λN L=>⟨hlen,λw hm=>?_⟩⟩;obtain⟨⟨a,c,rfl,hc⟩,hx⟩:=h;refine⟨by simp[BS],?_⟩
 cases a with
 |none=>
   have hn:xs=[]:=by
     cases xs with
     |nil=>rfl
     |cons x r=>
       obtain⟨cs,_,b,off,l',cap,cc,T,fr,e1,_⟩:=hx 0 qI
       cases e1
   subst hn
   cases hr
   simp[AK]
 |some a=>
   have hcell:∀ j v,ds[j]? = some v->w.cell? (a.add j)=some v:=by
     intro j v hj
     have hjl:j<xs.length*k:=by rw[<- hlen];exact (List.getElem?_eq_some_iff.1 hj).1
     have hk0:0<k:=by
       grind
     have hm':j/k<xs.length:=(Nat.div_lt_iff_lt_mul hk0).2 hjl
     have hj':j%k<k:=Nat.mod_lt _ hk0
     have hjj:j/k*k+j%k=j:=by rw[Nat.mul_comm];exact Nat.div_add_mod j k
     obtain⟨cs,_,⟨b,off,l',cap,cc,T,fr,e1,e2,e3,e4⟩,h1⟩:=hs hW (j/k) hm'
     cases e1
     have h1:=h1 (j%k) hj'
     rw[hjj,hj] at h1
     have h2:=e4 (j%k) hj'
     rw[<- h1] at h2
     rw[Gv_]
     have hw:=hm.h _ _ e2
     rw[BD,C7,hjj] at h2
     simp[CE,hw,h2]
   have :=run_loadCells_list (P:=P) w a ds hcell
   rw[hlen] at this
   simpa [AK] using this
theorem setAt_eq:∀ (vs cs:List Value) (off:Nat),off+vs.length<=cs.length->Oq_ cs off vs=cs.take off++(vs++cs.drop (off+vs.length))
 |[],cs,off,_=>by simp[Oq_]
 |v::r,cs,off,h=>by
   simp only[A3] at h
   rw[Oq_,setAt_eq r _ _ qQ]
   have e1:(cs.set off v).take (off+1)=cs.take off++[v]:=by
     rw[CR,DD (BF _)]
     grind
   have e2:(cs.set off v).drop (off+1+r.length)=cs.drop (off+(v::r).length):=by
     rw[FF qD]
     grind
   rw[e1,e2];simp
theorem X8_{b off i m:Nat}{T0:TypeId}{cs vs:List Value}(cs':List Value)(hx:ev F x = .pointer (some ⟨b,off,none⟩))(hy:ev F y = .agg vs.toArray)(hv:vs.all Value.oneCell'=true)(hk:Sz P T m)(hm:vs.length=m)(hi:L i=some (b,bx T0 cs))(ho':Nat.ble (off+m) cs.length=true)(hc:cs.take off++(vs++cs.drop (off+m))=cs')
   (k:K F H (lupd L i (some (b,bx T0 cs')))):Op1 P n N ops ⟨none, .store T x y,ty,pos,af,none⟩ K F H L:=by
 subst hm;rw[<- setAt_eq vs cs off (by simpa using ho')] at hc;subst hc;exact Z3_ hx hy hv hk Z hi ho' k
theorem lo_loadEfA{k k2 m o off:Nat}{sv:Value}{cs vs:List Value}(hx:ev F x = .pointer (some ⟨sBlk sv,sOff sv+m*k+o,none⟩))(hg:Ag P T true)(hk:Sz P T k2)(hs:SlAt H sv k m cs)(hv:sub cs o k2=vs)(hl:vs.length=k2):Lo P N (.load T x) ty F H L (.agg vs.toArray):=λd pos af g w hm=>by
 have hc:=run_loadCells_list (P:=P) w ⟨sBlk sv,sOff sv+m*k+o,none⟩ vs (λj v hj=>by
   rw[Gv_]
   subst hv
   simp only[sub,BA,CO] at hj
   split at hj
   . rw[C7];exact hm.cellAt hs hj
   . cases hj)
 exact tN
theorem T5_{k:IntKind}{i:Int}(w:World):(asInt (.int k i)).run P w = .ok i w:=rfl
theorem ownV_cut{k e len:Nat}{v:Value}{en:Option (Nat×Obj)}{cs:List Value}(h:OwnV k e v en len cs):∃ a c,v = .slice a len c/\OwnV k e (.slice a 0 c) en 0 []:=by
 obtain⟨_,⟨rfl,rfl,rfl⟩|⟨b,cap,c,f,rfl,rfl,h1,h2,_,hff⟩⟩:=h;exact⟨_,_,rfl,O6_⟩;exact⟨_,_,rfl,by simp, .inr ⟨b,cap,c,f,rfl,rfl,h1,AT _,by simp,hff⟩⟩
theorem lo_cap_sl{sa:Option Addr}{l c:Nat}{e:TypeId}(hx:ev F x = .slice sa l c)(hT:P.underlying T=some (.slice e)):Lo P N (.call ⟨.builtin .cap,#[x],#[T]⟩) ty F H L (.int .i64 c):=λd pos af g w _=>by
 refine Gd_ (args:=#[.slice sa l c]) pC λcs=>?_
 simp[builtin,Builtin.cap_,run_underlying hT,goInt]
theorem slA_0{a:Option Addr}{c k:Nat}:slA a c 0 k=a:=by
 unfold slA
 split
 rfl
 . cases a with
   |none=>rfl
   |some a=>simp[Addr.add]
theorem Vb_{k':IntKind}{hi:Operand}{a:Option Addr}{l c k:Nat}{e:TypeId}{j:Int}(hx:ev F x = .slice a l c)(hhi:ev F hi = .int k' j)(hT:P.underlying T=some (.slice e))(hk:Sz P e k)(h0:j=0) :
   Lo P N (.slice T x none (some hi) none) ty F H L (.slice a 0 c):=by
 have q:=P2_ (P:=P) (N:=N) (T:=T) (ty:=ty) (H:=H) (L:=L) (k:=k) 0 hx hhi hT hk qD (AT _)
 rwa [slA_0] at q
theorem op1_gd{od:Option Nat}{j:Nat}{want b:Bool}(hy:yF ops F j=some (.bool b))(hb:b=want)(h:Op1 P n N ops ⟨od,op,ty,pos,af,none⟩ K F H L):Op1 P n N ops ⟨od,op,ty,pos,af,some (j,want)⟩ K F H L:=by
 intro a w ha hm;have q:=h a w ha hm;rw[if_pos qM] at q;rw[if_pos oR];exact q
theorem lo_makeFuncB{f:FuncId}{xs ys:List Operand}{fs cap:List Value}(hc:evs F xs=fs)(hd:evs F ys=cap):Lo P N (.makeFunc (.func f) xs.toArray ys.toArray) ty F H L (.func (.func f) fs.toArray cap.toArray):=λd pos af g w _=>by
 subst hc;subst hd
 simp[execOp,Instr.makeFunc,evs_map]
theorem foldM_max{k:IntKind}(w:World):∀ (zs:List Int) (z:Int),(((zs.map (Value.int k)).foldlM Builtin.max2 (.int k z)):Sem Value).run P w = .ok (.int k (zs.foldl max z)) w
 |[],z=>rfl
 |y::r,z=>by
   have :(if y>z then y else z)=max z y:=by omega
   simp only[List.map_cons,List.foldlM_cons,BP]
   rw[CC]
   have e:(ED (.int k z) (.int k y)).run P w = .ok (.int k (max z y)) w:=by simp[ED,this]
   rw[e]
   exact foldM_max w r (max z y)
theorem lo_maxN{k:IntKind}{xs:List Operand}{z r:Int}(zs:List Int){ats:Array TypeId}(hx:evs F xs=(z::zs).map (Value.int k))(hr:zs.foldl max z=r):Lo P N (.call ⟨.builtin .max,xs.toArray,ats⟩) ty F H L (.int k r):=λd pos af g w _=>by
 refine Gd_ (args:=((z::zs).map (Value.int k)).toArray) (by simp[evs_map,hx]) λcs=>?_
 have :=foldM_max (P:=P) (k:=k) w zs z
 subst hr
 simp[builtin,FZ,this]
theorem equalIn_slnil(d:Nat){a:Option Addr}{l c:Nat}{e:TypeId}(hT:P.underlying T=some (.slice e))(w:World):(Op.equalIn (d+1) T (.slice a l c) (.slice none 0 0)).run P w = .ok a.isNone w:=by
 cases a<;>simp[D7,run_underlying hT]
theorem lo_sleq_nil{a:Option Addr}{l c:Nat}{e:TypeId}(hx:ev F x = .slice a l c)(hy:ev F y = .slice none 0 0)(hT:P.underlying T=some (.slice e)):Lo P N (.binOp .eql T x y T') ty F H L (.bool a.isNone):=
 Hn_ hx hy (λw=>by cases a<;>rfl) λw=>by simp[binOp,Oz_ (λd=>equalIn_slnil d hT w)]
theorem slh_none{E:Hp->α->List Value->Prop}{k l c:Nat}{xs:List α}(h:SlH E k H (.slice none l c) xs):xs=[]:=by
 cases xs with
 |nil=>rfl
 |cons x r=>
   have⟨cs,_,b,off,l',cap,cc,T,fr,e1,_⟩:=h.2 0 qI
   cases e1
variable{rest:List Oper}{Q:Qt}
def gv(c:Bool)(v:Value):Value:=bif c then v else undef
theorem bl{a b:Bool}(h:(a&&b)=true):a=true:=by cases a<;>simp_all
theorem br{a b:Bool}(h:(a&&b)=true):b=true:=by cases a<;>simp_all
theorem Qn_{a:Act}(ha:At n a F){j:Nat}(h:yF ops F j=some undef):yielded ops.toArray a.tmps j=none:=by
 unfold yF at h;unfold yielded
 cases ho:ops[j]? with
 |none=>simp[ho] at h
 |some o=>
   rw[ho] at h
   cases hd:o.dst with
   |none=>simp[hd] at h
   |some t=>
     simp[hd] at h
     have hg:=ha.get t
     rw[h,AL] at hg
     have ho':ops.toArray[j]? = some o:=by simp[ho]
     rw[ho',BY,hd,BY]
     cases e:a.tmps[t]? with
     |none=>rfl
     |some u=>
       rw[e] at hg
       simp only[DO] at hg
       subst hg
       rfl
theorem gq{j:Nat}{want c b:Bool}{v:Value}(hy:yF ops F j=some (gv c (.bool b)))(hd:Nat.blt d n=true)(h:(c&&(b==want))=true->Lo P N op ty F H L v)
   (k:Ow P n N ops rest Q (upd F d (gv (c&&(b==want)) v)) H L):Ow P n N ops (⟨some d,op,ty,pos,af,some (j,want)⟩::rest) Q F H L:=by
 cases c with
 |false=>
   refine ow1 λa w ha hm=>?_
   have :yielded ops.toArray a.tmps j=none:=Qn_ ha hy
   rw[if_neg oH]
   exact⟨_,_,_,ha.put qO undef,hm,k⟩
 |true=>
   by_cases e:b=want
   . subst e
     have e1:(true&&(b==b))=true:=by simp
     rw[e1] at k
     exact ow1 (op1_g hy Z hd (h e1) k)
   . have e1:(true&&(b==want))=false:=by simpa using e
     rw[e1] at k
     refine ow1 (op1_gs hy ?_ hd k)
     exact zB
section
variable{Lk:Ls}{fuel:Nat}{listed:Array Bool}{v:Value}
theorem vgq{j:Nat}{want c b:Bool}(i:Nat)(hi:ops[i]? = some ⟨some d,op,ty,pos,af,some (j,want)⟩)(hck:(rdB ops listed i&&apB n ops listed i ⟨some d,op,ty,pos,af,some (j,want)⟩&&Nat.blt d n&&nosB op)=true)(hL:LLe (lkOf op Lk) L)(hL0:LLe (λ_=>none) L)
   (hy:yF ops F j=some (gv c (.bool b))) (h:(c&&(b==want))=true->∀ H' L',HLe H H'->LLe (lkOf op Lk) L'->Lo P N op ty F H' L' v) (k:Vw P n N ops Lk Q fuel (listed.setIfInBounds i true) (upd F d (gv (c&&(b==want)) v)) H L):Vw P n N ops Lk Q (fuel+1) listed F H L:=by
 cases c with
 |false=>exact vw_qgx i hi hck hL0 hy k
 |true=>
   by_cases e:b=want
   . subst e
     have e1:(true&&(b==b))=true:=by simp
     rw[e1] at k
     exact vw_qg i hi hck hL hy Z (h e1) k
   . exact yL
theorem vgp{j:Nat}{want c b:Bool}{f:FuncId}{args:Array Value}(i:Nat)(hi:ops[i]? = some ⟨some d,op,ty,pos,af,some (j,want)⟩)(hck:(rdB ops listed i&&apB n ops listed i ⟨some d,op,ty,pos,af,some (j,want)⟩&&Nat.blt d n&&nosB op)=true)(hL0:LLe (λ_=>none) L)
   (hy:yF ops F j=some (gv c (.bool b))) (h:(c&&(b==want))=true->Pr P f args H v) (he:(c&&(b==want))=true->En P op F f args) (k:Vw P n N ops Lk Q fuel (listed.setIfInBounds i true) (upd F d (gv (c&&(b==want)) v)) H L):Vw P n N ops Lk Q (fuel+1) listed F H L:=by
 cases c with
 |false=>exact vw_qgx i hi hck hL0 hy k
 |true=>
   by_cases e:b=want
   . subst e
     have e1:(true&&(b==b))=true:=by simp
     rw[e1] at k
     exact vw_qgc i hi hck hL0 hy Z (h e1) (he e1) k
   . exact yL
end
theorem orl{a b:Bool}(h:(a||b)=false):a=false:=by cases a<;>simp_all
theorem orr{a b:Bool}(h:(a||b)=false):b=false:=by cases a<;>simp_all
def Po(P:Program)(f:FuncId)(args:Array Value)(H:Hp)(R:Value->Hp->Option (Nat×Obj)->Prop):Prop:=
 ∀ N L w i,Mem N H L w->Calls P f args w λe w'=>∃ v H' en,e = .returned v/\R v H' en/\HLe H H'/\Mem N H' (lupd L i en) w'
theorem po_of_cw{f:FuncId}{fn:Func}{c:Code}{args:Array Value}{H:Hp}{R:Value->Hp->Option (Nat×Obj)->Prop}(hf:P.funcs[f]? = some fn)(hb:fn.body=some c)(hs:args.size<=fn.ntmps)
   (h:∀ N,Cw P fn.ntmps N c (fnK P N fn H (λv' H' L'=>∃ k,R v' H' (L' k))) (Lc_ args) H l0):Po P f args H R:=
 λN L w i hm=>Ih_ hf hb hs (h (N.plus (lupd L i none))) (hm.clear i).aside λv' H' L' w' ⟨k,hr⟩ hl hm'=>by
   cases e:L' k with
   |none=>rw[e] at hr;exact⟨v',H',none,rfl,hr,hl,(hm.clear i).back hm'⟩
   |some p=>
     have⟨b,o⟩:=p
     rw[e] at hr
     exact⟨v',H',some (b,o),rfl,hr,hl,hm.backWith hm' e⟩
end Go.SW
namespace Go.SW
open Go.RowKit
variable{P:Program}{n:Nat}{N:Rest}{F:Fr}{H:Hp}{L:Ls}{ops:List Oper}{ty d:Nat}{pos:String}{af:Array Edge}{K:Fr->Hp->Ls->Prop}{x:Operand}{T:TypeId}
abbrev itr(s:Bs)(p:Nat):Obj:= .stringIter ⟨s.toArray⟩ p
inductive PV where
 |int (k:IntKind) (z:Int)
 |bool (b:Bool)
 |str (s:Bs)
 |agg (cs:List PV)
 |sl {α:Type} (enc:α->List PV) (xs:List α)
 |own (i b off:Nat)
 |osl (i:Nat)
 |el (row:List PV) (o:Nat)
 |fn (f:FuncId) (first cap:List PV)
 |tup (vs:List PV)
 |gv (c:Bool) (v:PV)
 |val (v:Value)
 |usl (u:Value)
 |junk
inductive Sim(H:Hp):PV->Value->Prop
 |int {k:IntKind} {z:Int} (h1:k.min<=z) (h2:z<=k.max):Sim H (.int k z) (.int k z)
 |bool {b:Bool}:Sim H (.bool b) (.bool b)
 |str {s:Bs} (h:s.length<=9223372036854775807):Sim H (.str s) (SW.str s)
 |agg {cs:List PV} {vs:List Value} (hl:vs.length=cs.length) (h:∀ (i:Nat) p v,cs[i]? = some p->vs[i]? = some v->Sim H p v):Sim H (.agg cs) (.agg vs.toArray)
 |sl {α:Type} {enc:α->List PV} {xs:List α} {a:Option Addr} {c:Nat} (k:Nat) (f:Nat->List Value) (hc:xs.length<=c) (hb:xs.length<=140737488355328)
     (h1:∀ (i:Nat) x,xs[i]? = some x->(enc x).length=k/\SlAt H (.slice a xs.length c) k i (f i)/\∀ u∈f i,u.oneCell'=true)
     (h2:∀ (i:Nat) x (j:Nat) p v,xs[i]? = some x->(enc x)[j]? = some p->(f i)[j]? = some v->Sim H p v):Sim H (.sl enc xs) (.slice a xs.length c)
 |own {i b off:Nat}:Sim H (.own i b off) (.pointer (some ⟨b,off,none⟩))
 |osl {i:Nat} {v:Value}:Sim H (.osl i) v
 |el {row:List PV} {o:Nat} {u:Value} {k m:Nat} {cs:List Value} (h1:SlAt H u k m cs) (hl:row.length=k) (h2:∀ (j:Nat) p v,row[j]? = some p->cs[j]? = some v->Sim H p v):Sim H (.el row o) (.pointer (some ⟨sBlk u,sOff u+m*k+o,none⟩))
 |fn {f:FuncId} {ps qs:List PV} {vs us:List Value} (hl:vs.length=ps.length) (hm:us.length=qs.length) (h:∀ (i:Nat) p v,ps[i]? = some p->vs[i]? = some v->Sim H p v) (h':∀ (i:Nat) p v,qs[i]? = some p->us[i]? = some v->Sim H p v):Sim H (.fn f ps qs) (.func (.func f) vs.toArray us.toArray)
 |tup {cs:List PV} {vs:List Value} (hl:vs.length=cs.length) (h:∀ (i:Nat) p v,cs[i]? = some p->vs[i]? = some v->Sim H p v):Sim H (.tup cs) (.tuple vs.toArray)
 |gvt {p:PV} {v:Value} (h:Sim H p v):Sim H (.gv true p) v
 |gvf {p:PV}:Sim H (.gv false p) undef
 |val {v:Value}:Sim H (.val v) v
 |usl {u:Value} (h:u.oneCell'=true):Sim H (.usl u) u
 |junk {v:Value}:Sim H .junk v
theorem Sim.mono{H H':Hp}(hl:HLe H H'){p:PV}{v:Value}(h:Sim H p v):Sim H' p v:=by
 induction h with
 |int h1 h2=>exact .int h1 h2
 |bool=>exact .bool
 |str h=>exact .str h
 |agg hl' _ ih=>exact .agg hl' ih
 |sl k f hc hb h1 _ ih=>exact .sl k f hc hb (λi x hx=>⟨(h1 i x hx).1,(h1 i x hx).2.1.mono hl,(h1 i x hx).2.2⟩) ih
 |own=>exact .own
 |osl=>exact .osl
 |el h1 hl' _ ih=>exact .el (h1.mono hl) hl' ih
 |fn hl' hm _ _ ih ih'=>exact .fn hl' hm ih ih'
 |tup hl' _ ih=>exact .tup hl' ih
 |gvt _ ih=>exact .gvt ih
 |gvf=>exact .gvf
 |val=>exact .val
 |usl h=>exact .usl h
 |junk=>exact .junk
def Sims(H:Hp)(ps:List PV)(vs:List Value):Prop:=vs.length=ps.length/\∀ (i:Nat) p v,ps[i]? = some p->vs[i]? = some v->Sim H p v
theorem Sims.mono{H H':Hp}(hl:HLe H H'){ps:List PV}{vs:List Value}(h:Sims H ps vs):Sims H' ps vs:=⟨h.1,λi p v hp hv=>(h.2 i p v hp hv).mono hl⟩
theorem Sims.nil{H:Hp}:Sims H [] []:=⟨rfl,λi p v h=>by simp at h⟩
theorem Sims.cons{H:Hp}{p:PV}{v:Value}{ps:List PV}{vs:List Value}(h:Sim H p v)(k:Sims H ps vs):Sims H (p::ps) (v::vs):=by
 refine⟨by simp[k.1],λi q u hq hu=>?_⟩
 cases i with
 |zero=>simp at hq hu;subst hq;subst hu;exact h
 |succ i=>exact k.2 i q u pS (by simpa using hu)
theorem Sims.inv_nil{H:Hp}{vs:List Value}(h:Sims H [] vs):vs=[]:=List.length_eq_zero_iff.1 h.1
theorem Sims.inv_cons{H:Hp}{p:PV}{ps:List PV}{vs:List Value}(h:Sims H (p::ps) vs):∃ v us,vs=v::us/\Sim H p v/\Sims H ps us:=by
 cases vs with
 |nil=>have :=h.1;simp at this
 |cons v us=>exact⟨v,us,rfl,h.2 0 p v Z Z,by have :=h.1;simpa using this,λi q u hq hu=>h.2 (i+1) q u pS (by simpa using hu)⟩
theorem Sims.get{H:Hp}{ps:List PV}{vs:List Value}(h:Sims H ps vs){i:Nat}{p:PV}(hp:ps[i]? = some p):∃ v,vs[i]? = some v/\Sim H p v:=by
 have hi:i<vs.length:=by
   rw[h.1]
   grind
 exact⟨vs[i],AA hi,h.2 i p _ hp (AA hi)⟩
theorem Sims.append{H:Hp}{ps qs:List PV}{vs us:List Value}(h:Sims H ps vs)(k:Sims H qs us):Sims H (ps++qs) (vs++us):=by
 induction ps generalizing vs with
 |nil=>cases h.inv_nil;exact k
 |cons p r ih=>obtain⟨v,w,rfl,h1,h2⟩:=h.inv_cons;exact (ih h2).cons h1
theorem Sims.take{H:Hp}{ps:List PV}{vs:List Value}(h:Sims H ps vs)(n:Nat):Sims H (ps.take n) (vs.take n):=by
 refine⟨by simp[h.1],λi p v hp hv=>?_⟩;rw[BA] at hp hv
 split at hp
 . rename_i q;rw[if_pos q] at hv;exact h.2 i p v hp hv
 . cases hp
theorem Sims.drop{H:Hp}{ps:List PV}{vs:List Value}(h:Sims H ps vs)(n:Nat):Sims H (ps.drop n) (vs.drop n):=by
 exact uS
def RowE{α:Type}(enc:α->List PV)(k:Nat):Hp->α->List Value->Prop:=λH x cs=>(enc x).length=k/\Sims H (enc x) cs/\∀ u∈cs,u.oneCell'=true
theorem Qf_{α:Type}{enc:α->List PV}{k:Nat}:Mono (RowE enc k):=λ_ _ _ _ hl h=>⟨h.1,h.2.1.mono hl,h.2.2⟩
theorem L1_{α:Type}{enc:α->List PV}{k:Nat}:Wide (RowE enc k) k:=λ_ _ _ h=>⟨by rw[h.2.1.1,h.1],h.2.2⟩
theorem Sim.of_slh{α:Type}{H:Hp}{enc:α->List PV}{k:Nat}{v:Value}{xs:List α}(h:SlH (RowE enc k) k H v xs)(hb:xs.length<=140737488355328):Sim H (.sl enc xs) v:=by
 classical
 obtain⟨⟨a,c,rfl,hc⟩,hx⟩:=h;let f:Nat->List Value:=λi=>if hi:i<xs.length then (hx i hi).choose else []
 have hf:∀ i (hi:i<xs.length),RowE enc k H xs[i] (f i)/\SlAt H (.slice a xs.length c) k i (f i):=λi hi=>by
   grind
 have hg:∀ (i:Nat) x,xs[i]? = some x->∃ hi:i<xs.length,xs[i]=x:=λi x h=>List.getElem?_eq_some_iff.1 h;refine .sl k f hc hb (λi x hxi=>?_) (λi x j p v hxi hp hv=>?_);obtain⟨hi,rfl⟩:=hg i x hxi;exact⟨(hf i hi).1.1,(hf i hi).2,(hf i hi).1.2.2⟩;obtain⟨hi,rfl⟩:=hg i x hxi;exact (hf i hi).1.2.1.2 j p v hp hv
theorem Sim.slh{α:Type}{H:Hp}{enc:α->List PV}{v:Value}{xs:List α}(h:Sim H (.sl enc xs) v):∃ k,SlH (RowE enc k) k H v xs/\xs.length<=140737488355328:=by
 cases h with
 |sl k f hc hb h1 h2=>
   refine⟨k,⟨⟨_,_,rfl,hc⟩,λm hm=>⟨f m,?_⟩⟩,hb⟩
   have hx:xs[m]? = some xs[m]:=AA hm
   have⟨e1,e2,e3⟩:=h1 m _ hx
   have hl:(f m).length=k:=by have⟨_,_,_,_,_,_,_,_,_,e,_⟩:=e2;exact e
   exact⟨⟨e1,⟨by rw[hl,e1],λj p v hp hv=>h2 m _ j p v hx hp hv⟩,e3⟩,e2⟩
theorem Sim.inv_int{H:Hp}{k:IntKind}{z:Int}{v:Value}(h:Sim H (.int k z) v):v = .int k z/\k.min<=z/\z<=k.max:=by
 cases h with|int h1 h2=>exact⟨rfl,h1,h2⟩
theorem Sim.inv_bool{H:Hp}{b:Bool}{v:Value}(h:Sim H (.bool b) v):v = .bool b:=by cases h;rfl
theorem Sim.inv_str{H:Hp}{s:Bs}{v:Value}(h:Sim H (.str s) v):v=SW.str s/\s.length<=9223372036854775807:=by
 cases h with|str h=>exact⟨rfl,h⟩
theorem Sim.inv_agg{H:Hp}{cs:List PV}{v:Value}(h:Sim H (.agg cs) v):∃ vs,v = .agg vs.toArray/\Sims H cs vs:=by
 cases h with|agg hl h=>exact⟨_,rfl,hl,h⟩
theorem Sim.inv_tup{H:Hp}{cs:List PV}{v:Value}(h:Sim H (.tup cs) v):∃ vs,v = .tuple vs.toArray/\Sims H cs vs:=by
 cases h with|tup hl h=>exact⟨_,rfl,hl,h⟩
theorem Sim.inv_own{H:Hp}{i b off:Nat}{v:Value}(h:Sim H (.own i b off) v):v = .pointer (some ⟨b,off,none⟩):=by cases h;rfl
theorem Sim.inv_fn{H:Hp}{f:FuncId}{ps qs:List PV}{v:Value}(h:Sim H (.fn f ps qs) v):∃ vs us,v = .func (.func f) vs.toArray us.toArray/\Sims H ps vs/\Sims H qs us:=by
 cases h with|fn hl hm h h'=>exact⟨_,_,rfl,⟨hl,h⟩,⟨hm,h'⟩⟩
theorem Sim.inv_el{H:Hp}{row:List PV}{o:Nat}{v:Value}(h:Sim H (.el row o) v):∃ u k m cs,v = .pointer (some ⟨sBlk u,sOff u+m*k+o,none⟩)/\SlAt H u k m cs/\Sims H row cs/\row.length=k:=by
 cases h with|el h1 hl h2=>exact⟨_,_,_,_,rfl,h1,⟨by have⟨_,_,_,_,_,_,_,_,_,e,_⟩:=h1;rw[e,hl],h2⟩,hl⟩
theorem Sim.inv_val{H:Hp}{u v:Value}(h:Sim H (.val u) v):v=u:=by cases h;rfl
theorem Sim.inv_usl{H:Hp}{u v:Value}(h:Sim H (.usl u) v):v=u/\u.oneCell'=true:=by cases h with|usl h=>exact⟨rfl,h⟩
theorem Sim.inv_gv{H:Hp}{c:Bool}{p:PV}{v:Value}(h:Sim H (.gv c p) v):(c=true/\Sim H p v)\/(c=false/\v=undef):=by
 cases h with
 |gvt h=>exact .inl ⟨rfl,h⟩
 |gvf=>exact .inr ⟨rfl,rfl⟩
theorem Sim.toAgg{H:Hp}{cs:List PV}{vs:List Value}(h:Sims H cs vs):Sim H (.agg cs) (.agg vs.toArray):= .agg h.1 h.2
theorem Sim.toTup{H:Hp}{cs:List PV}{vs:List Value}(h:Sims H cs vs):Sim H (.tup cs) (.tuple vs.toArray):= .tup h.1 h.2
theorem Sim.toFn{H:Hp}{f:FuncId}{ps qs:List PV}{vs us:List Value}(h:Sims H ps vs)(k:Sims H qs us):Sim H (.fn f ps qs) (.func (.func f) vs.toArray us.toArray):= .fn h.1 k.1 h.2 k.2
def PV.one:PV->Bool
 | .int _ _=>true
 | .bool _=>true
 | .str _=>true
 | .sl _ _=>true
 | .own _ _ _=>true
 | .el _ _=>true
 | .fn _ _ _=>true
 | .val v=>v.oneCell'
 | .usl _=>true
 |_=>false
theorem Sim.one{H:Hp}{p:PV}{v:Value}(h:Sim H p v)(ho:p.one=true):v.oneCell'=true:=by
 cases h<;>first|rfl|assumption|exact ho|(simp[PV.one] at ho)
mutual
def PV.flat:PV->Bool
 | .int _ _=>true
 | .bool _=>true
 | .str _=>true
 | .tup vs=>PV.flats vs
 | .agg vs=>PV.flats vs
 |_=>false
def PV.flats:List PV->Bool
 |[]=>true
 |p::r=>p.flat&&PV.flats r
end
mutual
theorem Sim.uniq{H H':Hp}:∀ {p:PV} {v v':Value},p.flat=true->Sim H p v->Sim H' p v'->v=v'
 | .int _ _,_,_,_,h,h'=>by rw[h.inv_int.1,h'.inv_int.1]
 | .bool _,_,_,_,h,h'=>by rw[h.inv_bool,h'.inv_bool]
 | .str _,_,_,_,h,h'=>by rw[h.inv_str.1,h'.inv_str.1]
 | .tup vs,_,_,hf,h,h'=>by
   obtain⟨us,rfl,h1⟩:=h.inv_tup
   obtain⟨us',rfl,h2⟩:=h'.inv_tup
   rw[Sims.uniq pT h1 h2]
 | .agg vs,_,_,hf,h,h'=>by
   obtain⟨us,rfl,h1⟩:=h.inv_agg
   obtain⟨us',rfl,h2⟩:=h'.inv_agg
   rw[Sims.uniq pT h1 h2]
 | .sl _ _,_,_,hf,_,_=>by simp[PV.flat] at hf
 | .own _ _ _,_,_,hf,_,_=>by simp[PV.flat] at hf
 | .osl _,_,_,hf,_,_=>by simp[PV.flat] at hf
 | .el _ _,_,_,hf,_,_=>by simp[PV.flat] at hf
 | .fn _ _ _,_,_,hf,_,_=>by simp[PV.flat] at hf
 | .gv _ _,_,_,hf,_,_=>by simp[PV.flat] at hf
 | .val _,_,_,hf,_,_=>by simp[PV.flat] at hf
 | .usl _,_,_,hf,_,_=>by simp[PV.flat] at hf
 | .junk,_,_,hf,_,_=>by simp[PV.flat] at hf
theorem Sims.uniq{H H':Hp}:∀ {ps:List PV} {vs vs':List Value},PV.flats ps=true->Sims H ps vs->Sims H' ps vs'->vs=vs'
 |[],_,_,_,h,h'=>by rw[h.inv_nil,h'.inv_nil]
 |p::r,_,_,hf,h,h'=>by
   obtain⟨v,us,rfl,a1,a2⟩:=h.inv_cons
   obtain⟨v',us',rfl,b1,b2⟩:=h'.inv_cons
   simp only[PV.flats,A5] at hf
   rw[Sim.uniq hf.1 a1 b1,Sims.uniq hf.2 a2 b2]
end
mutual
theorem Sim.flat_any{H H':Hp}:∀ {p:PV} {v:Value},p.flat=true->Sim H p v->Sim H' p v
 | .int _ _,_,_,h=>by cases h with|int h1 h2=>exact .int h1 h2
 | .bool _,_,_,h=>by cases h;exact .bool
 | .str _,_,_,h=>by cases h with|str h=>exact .str h
 | .tup vs,_,hf,h=>by
   obtain⟨us,rfl,h1⟩:=h.inv_tup
   exact Sim.toTup (Sims.flat_any pT h1)
 | .agg vs,_,hf,h=>by
   obtain⟨us,rfl,h1⟩:=h.inv_agg
   exact Sim.toAgg (Sims.flat_any pT h1)
 | .sl _ _,_,hf,_=>by simp[PV.flat] at hf
 | .own _ _ _,_,hf,_=>by simp[PV.flat] at hf
 | .osl _,_,hf,_=>by simp[PV.flat] at hf
 | .el _ _,_,hf,_=>by simp[PV.flat] at hf
 | .fn _ _ _,_,hf,_=>by simp[PV.flat] at hf
 | .gv _ _,_,hf,_=>by simp[PV.flat] at hf
 | .val _,_,hf,_=>by simp[PV.flat] at hf
 | .usl _,_,hf,_=>by simp[PV.flat] at hf
 | .junk,_,hf,_=>by simp[PV.flat] at hf
theorem Sims.flat_any{H H':Hp}:∀ {ps:List PV} {vs:List Value},PV.flats ps=true->Sims H ps vs->Sims H' ps vs
 |[],_,_,h=>by cases h.inv_nil;exact Sims.nil
 |p::r,_,hf,h=>by
   obtain⟨v,us,rfl,a1,a2⟩:=h.inv_cons
   simp only[PV.flats,A5] at hf
   exact (Sims.flat_any hf.2 a2).cons (Sim.flat_any hf.1 a1)
end
mutual
def PV.wf:PV->Prop
 | .int .u8 z=>0<=z/\z<=255
 | .int .u16 z=>0<=z/\z<=65535
 | .int .u32 z=>0<=z/\z<=4294967295
 | .int .u64 z=>0<=z/\z<=18446744073709551615
 | .int .i64 z=>-9223372036854775808<=z/\z<=9223372036854775807
 | .int .i32 z=>-2147483648<=z/\z<=2147483647
 | .int k z=>k.min<=z/\z<=k.max
 | .str s=>s.length<=9223372036854775807
 | .agg cs=>PV.wfs cs
 | .tup cs=>PV.wfs cs
 | .sl enc xs=>xs.length<=140737488355328/\∀ x∈xs,PV.wfs (enc x)
 |_=>True
def PV.wfs:List PV->Prop
 |[]=>True
 |p::r=>p.wf/\PV.wfs r
end
theorem PV.wfs_of:∀ {ps:List PV},(∀ (i:Nat) p,ps[i]? = some p->p.wf)->PV.wfs ps
 |[],_=>by simp[PV.wfs]
 |p::r,h=>by
   simp only[PV.wfs]
   exact⟨h 0 p Z,PV.wfs_of λi q hq=>h (i+1) q pS⟩
theorem getI{vs:List Value}{n i:Nat}(h:vs.length=n){p:PV}{cs:List PV}(hn:cs.length=n)(hp:cs[i]? = some p):∃ v,vs[i]? = some v:=by
 have hi:i<vs.length:=by
   grind
 simp_all
theorem Sim.wf{H:Hp}{p:PV}{v:Value}(h:Sim H p v):p.wf:=by
 induction h with
 |@int k z h1 h2=>cases k<;>(simp only[PV.wf];exact⟨h1,h2⟩)
 |bool=>simp[PV.wf]
 |str h=>simpa [PV.wf] using h
 |agg hl _ ih=>
   simp only[PV.wf]
   exact PV.wfs_of λi p hp=>by have⟨v,hv⟩:=getI hl Z hp;exact ih i p v hp hv
 |sl k f hc hb h1 _ ih=>
   simp only[PV.wf]
   refine⟨hb,λx hx=>?_⟩
   obtain⟨i,hi,rfl⟩:=List.mem_iff_getElem.1 hx
   have hxi:=AA hi
   have⟨e1,⟨_,_,_,_,_,_,_,_,_,e2,_⟩,_⟩:=h1 i _ hxi
   exact PV.wfs_of λj p hp=>by have⟨v,hv⟩:=getI (e2.trans e1.symm) Z hp;exact ih i _ j p v hxi hp hv
 |own=>simp[PV.wf]
 |osl=>simp[PV.wf]
 |el=>simp[PV.wf]
 |fn=>simp[PV.wf]
 |tup hl _ ih=>
   simp only[PV.wf]
   exact PV.wfs_of λi p hp=>by have⟨v,hv⟩:=getI hl Z hp;exact ih i p v hp hv
 |gvt=>simp[PV.wf]
 |gvf=>simp[PV.wf]
 |val=>simp[PV.wf]
 |usl=>simp[PV.wf]
 |junk=>simp[PV.wf]
theorem Sims.wf{H:Hp}{ps:List PV}{vs:List Value}(h:Sims H ps vs):PV.wfs ps:=PV.wfs_of λi p hp=>by have⟨v,_,h2⟩:=h.get hp;exact h2.wf
inductive Blk where
 |no
 |box (b:Nat) (T:TypeId) (cs:List PV)
 |arr {α:Type} (u:Value) (k:Nat) (e:TypeId) (enc:α->List PV) (xs:List α)
 |itr (b:Nat) (s:Bs) (p:Nat)
 |ob (b:Nat) (o:Obj)
structure St where
 F:Nat->PV
 L:Nat->Blk
def SimT(L:Nat->Blk)(H:Hp):PV->Value->Prop
 | .osl i,v=>match L i with
   | .arr u _ _ _ _=>v=u
   |_=>True
 |p,v=>Sim H p v
def SimTs(L:Nat->Blk)(H:Hp)(ps:List PV)(vs:List Value):Prop:=vs.length=ps.length/\∀ (i:Nat) p v,ps[i]? = some p->vs[i]? = some v->SimT L H p v
theorem SimT.sim{L:Nat->Blk}{H:Hp}{p:PV}{v:Value}(h:SimT L H p v):Sim H p v:=by
 cases p<;>first|exact h|exact .osl
theorem SimTs.sims{L:Nat->Blk}{H:Hp}{ps:List PV}{vs:List Value}(h:SimTs L H ps vs):Sims H ps vs:=⟨h.1,λi p v hp hv=>(h.2 i p v hp hv).sim⟩
def PV.noOsl:PV->Bool
 | .osl _=>false
 |_=>true
theorem Sim.simT{L:Nat->Blk}{H:Hp}{p:PV}{v:Value}(h:Sim H p v)(hp:p.noOsl=true):SimT L H p v:=by
 cases p<;>first|exact h|(simp[PV.noOsl] at hp)
theorem SimT.mono{L:Nat->Blk}{H H':Hp}(hl:HLe H H'){p:PV}{v:Value}(h:SimT L H p v):SimT L H' p v:=by
 cases p<;>first|exact Sim.mono hl h|exact h
def SimB(L:Nat->Blk)(H:Hp):Blk->Option (Nat×Obj)->Prop
 | .no,_=>True
 | .box b T cs,x=>∃ vs,x=some (b,bx T vs)/\SimTs L H cs vs
 | .arr u k e enc xs,x=>∃ cs,OwnV k e u x xs.length cs/\Rl (RowE enc k) H xs cs/\xs.length<=140737488355328
 | .itr b s p,x=>x=some (b,itr s p)
 | .ob b o,x=>x=some (b,o)
theorem SimB.mono{L:Nat->Blk}{H H':Hp}(hl:HLe H H'){B:Blk}{x:Option (Nat×Obj)}(h:SimB L H B x):SimB L H' B x:=by
 cases B with
 |no=>trivial
 |box b T cs=>have⟨vs,h1,h2,h3⟩:=h;exact⟨vs,h1,h2,λi p v hp hv=>(h3 i p v hp hv).mono hl⟩
 |arr u k e enc xs=>have⟨cs,h1,h2,h3⟩:=h;exact⟨cs,h1,h2.mono Qf_ hl,h3⟩
 |itr b s p=>exact h
 |ob b o=>exact h
structure Gb where
 p:Hp->Prop
 mono:∀ H H',HLe H H'->p H->p H'
structure Env where
 h:Hp
 g:Gb
structure Abs(H0:Env)(s:St)(F:Fr)(H:Hp)(L:Ls):Prop where
 le:HLe H0.h H
 g:H0.g.p H
 f:∀ t,SimT s.L H (s.F t) (F t)
 l:∀ i,SimB s.L H (s.L i) (L i)
theorem Abs.mono{H0:Env}{s:St}{F:Fr}{H H':Hp}{L:Ls}(h:Abs H0 s F H L)(hl:HLe H H'):Abs H0 s F H' L:=⟨h.le.trans hl,H0.g.mono _ _ hl h.g,λt=>(h.f t).mono hl,λi=>(h.l i).mono hl⟩
def updp(F:Nat->PV)(d:Nat)(p:PV):Nat->PV:=λt=>bif AW t d then p else F t
def lups(L:Nat->Blk)(i:Nat)(B:Blk):Nat->Blk:=λt=>bif AW t i then B else L t
theorem Ni_(F:Nat->PV)(d:Nat)(v:PV):updp F d v d=v:=by simp[updp]
theorem Sl_{F:Nat->PV}{d t:Nat}{v:PV}(h:t≠d):updp F d v t=F t:=by
 have :AW t d=false:=Z0_ h;simp[updp,this]
theorem Dd_(F:Nat->Blk)(d:Nat)(v:Blk):lups F d v d=v:=by simp[lups]
theorem Gg_{F:Nat->Blk}{d t:Nat}{v:Blk}(h:t≠d):lups F d v t=F t:=by
 have :AW t d=false:=Z0_ h;simp[lups,this]
theorem Abs.put{H0:Env}{s:St}{F:Fr}{H:Hp}{L:Ls}(h:Abs H0 s F H L){p:PV}{v:Value}(d:Nat)(hp:SimT s.L H p v):Abs H0 ⟨updp s.F d p,s.L⟩ (upd F d v) H L:=by
 refine⟨h.le,h.g,λt=>?_,h.l⟩;by_cases e:t=d;subst e;simp only[Ni_,upd_same];exact hp;simp only[Sl_ e,upd_ne e];exact h.f t
variable{P:Program}{n:Nat}{N:Rest}{F:Fr}{H:Hp}{L:Ls}
inductive TK where
 |int (k:IntKind)
 |str
 |bool
 |agg (fs:List (Nat×Nat))
 |slc (e:TypeId)
 |arr
 |oth
structure TI where
 k:TK
 size:Nat
 bytes:Nat
 zero:List PV
abbrev Tb:=List (TypeId×TI)
def nth{α:Type _}:List α->Nat->Option α
 |[],_=>none
 |a::_,0=>some a
 |_::r,i+1=>nth r i
theorem Gu_{α:Type _}:∀ (l:List α) (i:Nat),nth l i=l[i]?
 |[],_=>by simp[nth]
 |a::_,0=>by simp[nth]
 |_::r,i+1=>by simp[nth,Gu_ r i]
def lkT:Tb->TypeId->Option TI
 |[],_=>none
 |(a,x)::r,t=>bif AW t a then some x else lkT r t
def zm1:PV->Value->Bool
 | .int k z, .int k' z'=>decide (k=k') && decide (z=z') && decide (k.min<=z) && decide (z<=k.max)
 | .bool b, .bool b'=>b==b'
 | .str [], .string s=>decide (s.data.toList=[])
 | .sl _ [], .slice none 0 0=>true
 | .val (.pointer none), .pointer none=>true
 | .val .nilFunc, .nilFunc=>true
 | .val .nilIface, .nilIface=>true
 | .val (.map none), .map none=>true
 | .val (.slice none 0 0), .slice none 0 0=>true
 |_,_=>false
def zmatch:List PV->List Value->Bool
 |[],[]=>true
 |p::ps,v::vs=>zm1 p v&&zmatch ps vs
 |_,_=>false
def kB(P:Program)(t:TypeId):TK->Bool
 | .int k=>match P.underlying t with|some (.int k')=>decide (k=k')|_=>false
 | .str=>match P.underlying t with|some .string=>true|_=>false
 | .bool=>match P.underlying t with|some .bool=>true|_=>false
 | .slc e=>match P.underlying t with|some (.slice e')=>AW e e'|_=>false
 | .agg fs=>match P.underlying t with|some (.struct fields)=>decide (fields.toList.map (λf=>(f.offset,P.cellsOf f.type))=fs)&&fields.toList.all (λf=>(P.info? f.type).isSome)|_=>false
 | .arr=>match P.underlying t with|some (.array _ _)=>true|_=>false
 | .oth=>match P.underlying t with|some (.struct _)=>false|some (.array _ _)=>false|some _=>true|none=>false
def tiB(P:Program)(t:TypeId)(ti:TI):Bool:=
 (match P.info? t with
 |some i=>AW i.size ti.size&&AW i.bytes ti.bytes&&(match i.zero with|some zv=>zmatch ti.zero zv.cells.toList|none=>false)
 |none=>false)&&kB P t ti.k
def tbB(P:Program)(tb:Tb):Bool:=tb.all λx=>tiB P x.1 x.2
theorem lkT_ok{tb:Tb}(h:tbB P tb=true){t:TypeId}{ti:TI}(hl:lkT tb t=some ti):tiB P t ti=true:=by
 induction tb with
 |nil=>simp[lkT] at hl
 |cons x r ih=>
   have⟨a,y⟩:=x
   simp only[tbB,List.all_cons,A5] at h
   simp only[lkT] at hl
   cases e:AW t a with
   |true=>rw[e] at hl;simp at hl;subst hl;rw[AQ e];exact h.1
   |false=>rw[e] at hl;exact ih (by simpa [tbB] using h.2) qW
theorem zm1_ok{p:PV}{v:Value}(h:zm1 p v=true):Sim H p v:=by
 unfold zm1 at h
 split at h
 simp only[A5,decide_eq_true_eq] at h;obtain⟨⟨⟨rfl,rfl⟩,h1⟩,h2⟩:=h;exact .int h1 h2;have e:=eq_of_beq h;subst e;exact .bool
 . rename_i s
   have e:s=⟨([]:Bs).toArray⟩:=by
     have :=of_decide_eq_true h
     cases s with|mk d=>congr;exact E7 (by simpa using this)
   subst e
   exact .str qI
 exact Sim.of_slh (k:=0) slh_nil qI;exact .val;exact .val;exact .val;exact .val;exact .val
 . cases h
theorem zmatch_ok:∀ {ps:List PV} {vs:List Value},zmatch ps vs=true->Sims H ps vs
 |[],[],_=>Sims.nil
 |p::ps,v::vs,h=>by
   simp only[zmatch,A5] at h
   exact (zmatch_ok h.2).cons (zm1_ok h.1)
 |[],_::_,h=>by simp[zmatch] at h
 |_::_,[],h=>by simp[zmatch] at h
structure TIOk(P:Program)(t:TypeId)(ti:TI):Prop where
 sz:Sz P t ti.size
 by_:By P t ti.bytes
 cells:P.cellsOf t=ti.size
 zero:∃ zv:Value,(∀ w,(zeroValue t).run P w = .ok zv w)/\∀ H,Sims H ti.zero zv.cells.toList
 k:kB P t ti.k=true
theorem Ef_{tb:Tb}(h:tbB P tb=true){t:TypeId}{ti:TI}(hl:lkT tb t=some ti):TIOk P t ti:=by
 have h:=lkT_ok h hl;simp only[tiB,A5] at h;have⟨h1,h2⟩:=h
 split at h1
 . rename_i i hi
   simp only[A5] at h1
   have⟨⟨a1,a2⟩,a3⟩:=h1
   have b1:=AQ a1
   have b2:=AQ a2
   split at a3
   . rename_i zv hz
     exact⟨λw=>by simp[sizeOf,typeInfo,hi,b1],λw=>⟨i,by simp[typeInfo,hi],b2⟩,by simp[DR,hi,b1],⟨zv,λw=>by simp[zeroValue,typeInfo,hi,hz],λH=>zmatch_ok a3⟩,h2⟩
   . cases a3
 . cases h1
theorem TIOk.int{t:TypeId}{ti:TI}(h:TIOk P t ti){k:IntKind}(e:ti.k = .int k):P.underlying t=some (.int k):=by
 have :=h.k;rw[e] at this;simp only[kB] at this;split at this;grind
 . cases this
theorem TIOk.str{t:TypeId}{ti:TI}(h:TIOk P t ti)(e:ti.k = .str):P.underlying t=some .string:=by
 have :=h.k;rw[e] at this;simp only[kB] at this;split at this;assumption
 . cases this
theorem TIOk.bool{t:TypeId}{ti:TI}(h:TIOk P t ti)(e:ti.k = .bool):P.underlying t=some .bool:=by
 have :=h.k;rw[e] at this;simp only[kB] at this;split at this;assumption
 . cases this
theorem TIOk.slc{t:TypeId}{ti:TI}(h:TIOk P t ti){q:TypeId}(e:ti.k = .slc q):P.underlying t=some (.slice q):=by
 have :=h.k;rw[e] at this;simp only[kB] at this;split at this
 . rename_i hu;rw[hu,AQ this]
 . cases this
theorem TIOk.agg{t:TypeId}{ti:TI}(h:TIOk P t ti){fs:List (Nat×Nat)}(e:ti.k = .agg fs):∃ fields,P.underlying t=some (.struct fields)/\fields.toList.map (λf=>(f.offset,P.cellsOf f.type))=fs/\∀ f∈fields.toList,∃ i,P.info? f.type=some i:=by
 have :=h.k;rw[e] at this;simp only[kB] at this;split at this
 . rename_i fields hu
   simp only[A5,decide_eq_true_eq,List.all_eq_true] at this
   exact⟨fields,hu,this.1,λf hf=>Option.isSome_iff_exists.1 (this.2 f hf)⟩
 . cases this
def TK.isAgg:TK->Bool
 | .agg _=>true
 | .arr=>true
 |_=>false
theorem TIOk.ag{t:TypeId}{ti:TI}(h:TIOk P t ti):Ag P t ti.k.isAgg:=λw=>by
 cases e:ti.k with
 |int k=>simp[DF,run_underlying (h.int e),TK.isAgg]
 |str=>simp[DF,run_underlying (h.str e),TK.isAgg]
 |bool=>simp[DF,run_underlying (h.bool e),TK.isAgg]
 |slc q=>simp[DF,run_underlying (h.slc e),TK.isAgg]
 |agg fs=>have⟨fields,hu,_⟩:=h.agg e;simp[DF,run_underlying hu,TK.isAgg]
 |arr=>
   have :=h.k;rw[e] at this;simp only[kB] at this;split at this
   . rename_i hu;simp[DF,run_underlying hu,TK.isAgg]
   . cases this
 |oth=>
   have :=h.k;rw[e] at this;simp only[kB] at this
   simp only[TK.isAgg]
   split at this
   . cases this
   . cases this
   . rename_i d h1 h2 hu
     cases d<;>first|(exact absurd Z (h1 _))|(exact absurd Z (h2 _ _))|simp[DF,run_underlying hu]
   . cases this
def frcB{α:Type _}:Bs->(Bs->α)->α
 |[],c=>c []
 |b::r,c=>frcB r λr=>c (b::r)
theorem frcB_eq{α:Type _}:∀ (l:Bs) (c:Bs->α),frcB l c=c l
 |[],c=>rfl
 |b::r,c=>by simp only[frcB,frcB_eq r]
def cst:Value->PV
 | .int k z=>bif decide (k.min<=z) && decide (z<=k.max) then .int k z else .val (.int k z)
 | .bool b=> .bool b
 | .string s=>bif F0 s.data.toList.length 9223372036854775807 then frcB s.data.toList .str else .val (.string s)
 |v=> .val v
theorem cst_ok(v:Value):Sim H (cst v) v:=by
 unfold cst
 split
 . rename_i k z
   cases e:decide (k.min<=z) && decide (z<=k.max) with
   |false=>exact .val
   |true=>simp only[A5,decide_eq_true_eq] at e;exact .int e.1 e.2
 exact .bool
 . rename_i s
   cases e:F0 s.data.toList.length 9223372036854775807 with
   |false=>exact .val
   |true=>
     simp only[cond_true,frcB_eq]
     have :=Sim.str (H:=H) (BZ e)
     rw[<- str_of] at this
     exact this
 exact .val
theorem cst_noOsl(v:Value):(cst v).noOsl=true:=by
 unfold cst
 split
 . rename_i k z;cases decide (k.min<=z) && decide (z<=k.max)<;>rfl
 rfl
 . rename_i s;cases F0 s.data.toList.length 9223372036854775807<;>simp[frcB_eq,PV.noOsl]
 rfl
def evP(F:Nat->PV):Operand->PV
 | .tmp t=>F t
 | .const v=>cst v
 | .global g=> .val (.pointer (some ⟨g,0,none⟩))
 | .func f=> .fn f [] []
def evPs(F:Nat->PV):List Operand->List PV
 |[]=>[]
 |x::r=>evP F x::evPs F r
abbrev Ok1(Ls:Nat->Blk)(H:Hp)(G:Nat->PV)(F:Fr)(x:Operand):Prop:=SimT Ls H (evP G x) (ev F x)
theorem Cm_{Ls:Nat->Blk}{G:Nat->PV}(h:∀ t,SimT Ls H (G t) (F t))(x:Operand):Ok1 Ls H G F x:=by
 cases x with
 |tmp t=>exact h t
 |const v=>exact (cst_ok v).simT (cst_noOsl v)
 |«global» g=>exact Sim.val
 |func f=>exact Sim.toFn Sims.nil Sims.nil
theorem Wr_{Ls:Nat->Blk}{G:Nat->PV}:∀ {xs:List Operand},(∀ x∈xs,Ok1 Ls H G F x)->SimTs Ls H (evPs G xs) (evs F xs)
 |[],_=>⟨rfl,λi p v h=>by simp[evPs] at h⟩
 |x::r,h=>by
   have ih:=Wr_ (xs:=r) λy hy=>h y (AB _ hy)
   refine⟨by simp[evPs,evs,ih.1],λi p v hp hv=>?_⟩
   cases i with
   |zero=>simp[evPs,evs] at hp hv;subst hp;subst hv;exact h x AG
   |succ i=>exact ih.2 i p v (by simpa [evPs] using hp) (by simpa [evs] using hv)
structure PR where
 v:PV
 ps:List Prop
 lk:Option (Nat×Nat×Nat)
def AllP:List Prop->Prop
 |[]=>True
 |p::r=>p/\AllP r
def Yl(P:Program)(N:Rest)(sL:Nat->Blk)(op:Op)(ty:TypeId)(F:Fr)(H:Hp)(L:Ls)(r:PR):Prop:=
 ∃ val,SimT sL H r.v val/\∀ H' L',HLe H H'->(∀ x,r.lk=some x->L' x.1=L x.1)->Lo P N op ty F H' L' val
abbrev PR.q(v:PV):PR:=⟨v,[],none⟩
theorem Mh_(k:IntKind)(z:Int):k.min<=k.wrap z/\k.wrap z<=k.max:=by
 cases k<;>simp[A0,EP,DN,AC,D5]<;>omega
variable{sL:Nat->Blk}{G:Nat->PV}{ty:TypeId}
theorem y_move{x:Operand}(h:Ok1 sL H G F x):Yl P N sL (.move x) ty F H L (.q (evP G x)):=⟨_,h,λ_ _ _ _=>Iu_ Z⟩
theorem y_assign{x:Operand}(h:Ok1 sL H G F x):Yl P N sL (.assign x) ty F H L (.q (evP G x)):=⟨_,h,λ_ _ _ _=>M0_ Z⟩
def pPick(c a b:PV):Option PR:=
 match a with
 | .gv c1 q=>match c,q,b with
   | .bool p, .bool q', .bool b'=>some ⟨.bool (p&&q'),[c1=p,b'=false],none⟩
   |_,_,_=>none
 |a=>match b with
   | .gv c1 q=>match c,q,a with
     | .bool p, .bool q', .bool a'=>some ⟨.bool (p||q'),[c1=!p,a'=true],none⟩
     |_,_,_=>none
   |b=>match c with
     | .bool p=>match p with
       |true=>some (.q a)
       |false=>some (.q b)
     |_=>none
theorem Xu_{x y z:Operand}{p:Bool}{v:Value}(hx:ev F x = .bool p)(hv:v = bif p then ev F y else ev F z):Lo P N (.pick x y z) ty F H L v:=λ_ _ _ _ w _=>by
 subst hv;cases p<;>simp[execOp,hx,asBool]
theorem y_pick{x y z:Operand}{r:PR}(hx:Ok1 sL H G F x)(hy:Ok1 sL H G F y)(hz:Ok1 sL H G F z)(h:pPick (evP G x) (evP G y) (evP G z)=some r)(hp:AllP r.ps):Yl P N sL (.pick x y z) ty F H L r:=by
 unfold Ok1 at hx hy hz;generalize evP G x=c at *;generalize evP G y=a at *;generalize evP G z=b at *;unfold pPick at h
 split at h
 . rename_i c1 q
   split at h
   . rename_i p q' b'
     cases h
     have⟨e1,e2,_⟩:=hp
     subst e1;subst e2
     have ex:=Sim.inv_bool (hx.sim)
     have ez:=Sim.inv_bool (hz.sim)
     refine⟨.bool (c1&&q'),Sim.bool,λ_ _ _ _=>Xu_ ex ?_⟩
     rcases Sim.inv_gv hy.sim with ⟨rfl,h1⟩|⟨rfl,h1⟩
     simp[Sim.inv_bool h1]
     simp[ez]
   . cases h
 . split at h
   . rename_i c1 q
     split at h
     . rename_i p q' a' _
       cases h
       have⟨e1,e2,_⟩:=hp
       subst e1;subst e2
       have ex:=Sim.inv_bool (hx.sim)
       have ey:=Sim.inv_bool (hy.sim)
       refine⟨.bool (p||q'),Sim.bool,λ_ _ _ _=>Xu_ ex ?_⟩
       rcases Sim.inv_gv hz.sim with ⟨e,h1⟩|⟨e,h1⟩
       . cases p<;>simp_all [Sim.inv_bool h1]
       grind
     . cases h
   . split at h
     . split at h
       . cases h;exact⟨_,hy,λ_ _ _ _=>Xu_ (Sim.inv_bool hx.sim) Z⟩
       . cases h;exact⟨_,hz,λ_ _ _ _=>Xu_ (Sim.inv_bool hx.sim) Z⟩
     . cases h
def pCmp:BinOp->Int->Int->Option Bool
 | .eql,x,y=>some (decide (x=y))
 | .neq,x,y=>some (!decide (x=y))
 | .lss,x,y=>some (decide (x<y))
 | .leq,x,y=>some (decide (x<=y))
 | .gtr,x,y=>some (decide (y<x))
 | .geq,x,y=>some (decide (y<=x))
 |_,_,_=>none
def pSum:IntKind->Int->Option PR
 | .i64,z=>some ⟨.int .i64 z,[-9223372036854775808<=z/\z<=9223372036854775807],none⟩
 | .i32,z=>some ⟨.int .i32 z,[-2147483648<=z/\z<=2147483647],none⟩
 | .u8,z=>some (.q (.int .u8 (A0 .u8 z)))
 | .u16,z=>some (.q (.int .u16 (A0 .u16 z)))
 | .u32,z=>some (.q (.int .u32 (A0 .u32 z)))
 | .u64,z=>some (.q (.int .u64 (A0 .u64 z)))
 |_,_=>none
def IntKind.uns:IntKind->Bool
 | .u8=>true
 | .u16=>true
 | .u32=>true
 | .u64=>true
 |_=>false
def pInt(op:BinOp)(k:IntKind)(x y:Int):Option PR:=
 match op with
 | .add=>pSum k (x+y)
 | .sub=>pSum k (x-y)
 | .mul=>pSum k (x*y)
 | .quo=>some ⟨.int k (x/y),[0<=x,0<y],none⟩
 | .rem=>some ⟨.int k (x%y),[0<=x,0<y],none⟩
 | .or=>some (.q (.int k (k.wrap ((AF k.bits x |||AF k.bits y).toNat))))
 | .and=>some (.q (.int k (k.wrap ((AF k.bits x &&& AF k.bits y).toNat))))
 | .xor=>some (.q (.int k (k.wrap ((AF k.bits x ^^^ AF k.bits y).toNat))))
 | .andNot=>some (.q (.int k (k.wrap ((AF k.bits x &&& ~~~ AF k.bits y).toNat))))
 |op=>match pCmp op x y with
   |some b=>some (.q (.bool b))
   |none=>none
def kEq(k k':IntKind):Bool:=decide (k=k')
def pBin(tb:Tb)(op:BinOp)(T:TypeId)(a b:PV):Option PR:=
 match a with
 | .int k x=>match b with
   | .int k' y=>match op with
     | .shl=>some ⟨.int k (k.wrap (x*2 ^ (min y.toNat k.bits))),[0<=y],none⟩
     | .shr=>match IntKind.uns k with
       |true=>some ⟨.int k (x.fdiv (2 ^ (min y.toNat k.bits))),[0<=y],none⟩
       |false=>none
     |op=>match kEq k k' with
       |true=>pInt op k x y
       |false=>none
   |_=>none
 | .str s=>match b with
   | .str t=>match op with
     | .add=>some ⟨.str (s++t),[s.length+t.length<=9223372036854775807],none⟩
     | .eql=>some (.q (.bool (decide (s=t))))
     | .neq=>some (.q (.bool (!decide (s=t))))
     | .lss=>some (.q (.bool (Op.bytesLess s t)))
     |_=>none
   |_=>none
 | .bool p=>match b with
   | .bool q=>match lkT tb T with
     |some ti=>match ti.k with
       | .bool=>match op with
         | .eql=>some (.q (.bool (p==q)))
         | .neq=>some (.q (.bool (!(p==q))))
         |_=>none
       |_=>none
     |none=>none
   |_=>none
 |_=>none
theorem y_of{op:Op}{p:PV}{v:Value}(hs:SimT sL H p v)(h:∀ H' L',Lo P N op ty F H' L' v):Yl P N sL op ty F H L (.q p):=⟨v,hs,λH' L' _ _=>h H' L'⟩
theorem y_sum{k:IntKind}{z:Int}{op:Op}{r:PR}(h:pSum k z=some r)(hp:AllP r.ps)(hw:∀ H' L',Lo P N op ty F H' L' (.int k (k.wrap z))):Yl P N sL op ty F H L r:=by
 have hr:=Mh_ k z;unfold pSum at h
 split at h<;>first|cases h|skip
 have e:A0 .i64 z=z:=Qm_ (k:= .i64) hp.1;exact tE;have e:A0 .i32 z=z:=Qm_ (k:= .i32) hp.1;exact tE
 all_goals exact⟨_,Sim.int hr.1 hr.2,λH' L' _ _=>hw H' L'⟩
theorem ediv_in{k:IntKind}{x y:Int}(h0:0<=x)(hm:x<=k.max)(hy:0<y):k.min<=x/y/\x/y<=k.max:=by
 have h1:0<=x/y:=E6 h0 (D6 hy);have h2:x/y<=x:=DZ _ h0;have h3:k.min<=0:=by cases k<;>decide
 omega
theorem emod_in{k:IntKind}{x y:Int}(h0:0<=x)(hm:x<=k.max)(hy:0<y):k.min<=x%y/\x%y<=k.max:=by
 have h1:0<=x%y:=Int.emod_nonneg _ qD;have h2:x%y<=x:=by
   have e:=Int.mul_ediv_add_emod x y
   have :=Int.mul_nonneg (D6 hy) (E6 h0 (D6 hy))
   omega
 have h3:k.min<=0:=by cases k<;>decide
 omega
theorem uns_min{k:IntKind}(h:IntKind.uns k=true):k.min=0:=by cases k<;>first|rfl|(simp[IntKind.uns] at h)
theorem fdiv_in{k:IntKind}{x:Int}{m:Nat}(hu:IntKind.uns k=true)(h0:k.min<=x)(hm:x<=k.max):k.min<=x.fdiv (2 ^ m)/\x.fdiv (2 ^ m)<=k.max:=by
 rw[uns_min hu] at *;have hp:(0:Int)<2 ^ m:=Int.pow_pos qF;rw[Int.fdiv_eq_ediv_of_nonneg _ (D6 hp)];exact⟨Int.ediv_nonneg h0 (D6 hp),GT (DZ _ h0) hm⟩
theorem y_bin{tb:Tb}{op:BinOp}{T T':TypeId}{x y:Operand}{r:PR}(ht:tbB P tb=true)(hx:Ok1 sL H G F x)(hy:Ok1 sL H G F y)(h:pBin tb op T (evP G x) (evP G y)=some r)(hp:AllP r.ps):Yl P N sL (.binOp op T x y T') ty F H L r:=by
 unfold Ok1 at hx hy;generalize evP G x=a at *;generalize evP G y=b at *;have hx:=hx.sim;have hy:=hy.sim;unfold pBin at h
 split at h
 . split at h
   . rename_i k z _ k' u
     have⟨ex,x1,x2⟩:=hx.inv_int
     have⟨ey,y1,y2⟩:=hy.inv_int
     split at h
     . cases h;exact⟨_,Sim.int (Mh_ _ _).1 (Mh_ _ _).2,λH' L' _ _=>lo_shl ex ey hp.1⟩
     . split at h
       . rename_i hu;cases h;exact⟨_,Sim.int (fdiv_in hu x1 x2).1 (fdiv_in hu x1 x2).2,λH' L' _ _=>lo_shr ex ey hp.1⟩
       . cases h
     . split at h
       . rename_i hk
         have hk:=of_decide_eq_true hk
         subst hk
         unfold pInt at h
         split at h
         exact y_sum h hp λ_ _=>lo_add_w ex ey
         exact y_sum h hp λ_ _=>lo_sub_w ex ey
         exact y_sum h hp λ_ _=>lo_mul_w ex ey
         . cases h;have⟨h0,h1,_⟩:=hp;exact⟨_,Sim.int (ediv_in h0 x2 h1).1 (ediv_in h0 x2 h1).2,λH' L' _ _=>lo_quo ex ey h0 x2 h1⟩
         . cases h;have⟨h0,h1,_⟩:=hp;exact⟨_,Sim.int (emod_in h0 x2 h1).1 (emod_in h0 x2 h1).2,λH' L' _ _=>lo_rem ex ey h0 h1⟩
         . cases h;exact y_of (Sim.int (Mh_ _ _).1 (Mh_ _ _).2) λ_ _=>lo_or ex ey
         . cases h;exact y_of (Sim.int (Mh_ _ _).1 (Mh_ _ _).2) λ_ _=>lo_and ex ey
         . cases h;exact y_of (Sim.int (Mh_ _ _).1 (Mh_ _ _).2) λ_ _=>lo_xor ex ey
         . cases h;exact y_of (Sim.int (Mh_ _ _).1 (Mh_ _ _).2) λ_ _=>Hn_ (v:= .int _ (A0 _ _)) ex ey (λw=>E2_ w) λw=>by simp[binOp,DP]
         . split at h
           . rename_i hb
             cases h
             unfold pCmp at hb
             split at hb<;>first|cases hb|skip
             exact y_of Sim.bool λ_ _=>lo_eql ex ey
             exact y_of Sim.bool λ_ _=>lo_neq ex ey
             exact y_of Sim.bool λ_ _=>lo_lss ex ey
             exact y_of Sim.bool λ_ _=>lo_leq ex ey
             exact y_of Sim.bool λ_ _=>lo_gtr ex ey
             exact y_of Sim.bool λ_ _=>lo_geq ex ey
           . cases h
       . cases h
   . cases h
 . split at h
   . have⟨ex,x1⟩:=hx.inv_str
     have⟨ey,y1⟩:=hy.inv_str
     split at h<;>first|cases h|skip
     exact⟨_,Sim.str (by simpa using hp.1),λ_ _ _ _=>lo_cat ex ey hp.1⟩
     exact y_of Sim.bool λ_ _=>lo_seql ex ey
     exact y_of Sim.bool λ_ _=>lo_sneq ex ey
     exact y_of Sim.bool λ_ _=>lo_slss ex ey
   . cases h
 . split at h
   . have ex:=hx.inv_bool
     have ey:=hy.inv_bool
     split at h
     . rename_i ti hti
       split at h
       . rename_i hk
         have hu:=(Ef_ ht hti).bool hk
         split at h<;>first|cases h|skip
         exact y_of Sim.bool λ_ _=>lo_beql ex ey hu
         exact y_of Sim.bool λ_ _=>lo_bneq ex ey hu
       . cases h
     . cases h
   . cases h
 . cases h
end Go.SW
namespace Go.SW
variable{P:Program}{n:Nat}{N:Rest}{F:Fr}{H:Hp}{L:Ls}{sL:Nat->Blk}{G:Nat->PV}{ty:TypeId}
def pUn(op:UnOp)(a:PV):Option PR:=
 match op with
 | .not=>match a with
   | .bool p=>some (.q (.bool (!p)))
   |_=>none
 | .xor=>match a with
   | .int k x=>match IntKind.uns k with
     |true=>some (.q (.int k (k.wrap ((AF k.bits k.max ^^^ AF k.bits x).toNat))))
     |false=>none
   |_=>none
 |_=>none
theorem y_un{op:UnOp}{T:TypeId}{x:Operand}{r:PR}(hx:Ok1 sL H G F x)(h:pUn op (evP G x)=some r):Yl P N sL (.unOp op T x) ty F H L r:=by
 unfold Ok1 at hx;generalize evP G x=a at *
 replace hx:=hx.sim
 unfold pUn at h
 split at h
 . split at h
   . cases h;exact y_of Sim.bool λ_ _=>lo_not hx.inv_bool
   . cases h
 . split at h
   . split at h
     . rename_i hu
       cases h
       have hs:∀ k:IntKind,IntKind.uns k=true->k.signed=false:=λk=>by cases k<;>simp[IntKind.uns,D5]
       exact y_of (Sim.int (Mh_ _ _).1 (Mh_ _ _).2) λ_ _=>lo_com hx.inv_int.1 (hs _ hu)
     . cases h
   . cases h
 . cases h
def fOff(tb:Tb)(T:TypeId)(f:Nat):Option Nat:=
 match lkT tb T with
 |some ti=>match ti.k with
   | .agg fs=>match nth fs f with
     |some (o,z)=>match z with
       |0=>none
       |_+1=>some o
     |none=>none
   |_=>none
 |none=>none
theorem fOff_ok{tb:Tb}(ht:tbB P tb=true){T f o:Nat}(h:fOff tb T f=some o):Fld P T f o:=by
 unfold fOff at h
 split at h
 . rename_i ti hti
   split at h
   . rename_i fs hk
     split at h
     . rename_i o' z hn
       split at h
       . cases h
       . rename_i m
         cases h
         have⟨fields,hu,hm,hi⟩:=(Ef_ ht hti).agg hk
         rw[Gu_,<- hm,B8] at hn
         cases hf:fields.toList[f]? with
         |none=>rw[hf] at hn;cases hn
         |some fd=>
           rw[hf] at hn
           simp only[BT,Option.some.injEq,Prod.mk.injEq] at hn
           have⟨h1,h2⟩:=hn
           have hmem:fd∈fields.toList:=List.mem_of_getElem? hf
           have⟨i,hi⟩:=hi fd hmem
           have hfa:fields[f]? = some fd:=by simpa using hf
           intro b off w
           have hsz:i.size≠0:=by simp[DR,hi] at h2;omega
           simp[G2,run_underlying hu,hfa,D9,fieldPlace,sizeOf,typeInfo,hi,hsz,Gv_,h1]
     . cases h
   . cases h
 . cases h
def pFA(tb:Tb)(T:TypeId)(a:PV)(f:Nat):Option PR:=
 match fOff tb T f with
 |some o=>match a with
   | .own i b off=>some (.q (.own i b (off+o)))
   | .el row off=>some (.q (.el row (off+o)))
   |_=>none
 |none=>none
theorem y_fa{tb:Tb}{T f:Nat}{x:Operand}{r:PR}(ht:tbB P tb=true)(hx:Ok1 sL H G F x)(h:pFA tb T (evP G x) f=some r):Yl P N sL (.fieldAddr T x f) ty F H L r:=by
 unfold Ok1 at hx;generalize evP G x=a at *
 replace hx:=hx.sim
 unfold pFA at h
 split at h
 . rename_i o ho
   have hf:=fOff_ok ht ho
   split at h
   . cases h;exact y_of Sim.own λ_ _=>E3_ hx.inv_own hf
   . cases h
     have⟨u,k,m,cs,e,h1,h2,h3⟩:=hx.inv_el
     refine y_of (Sim.el h1 h3 h2.2) λH' L'=>?_
     have :=E3_ (P:=P) (N:=N) (H:=H') (L:=L') (ty:=ty) e hf
     grind
   . cases h
 . cases h
def pCut(ti:TI)(cs:List PV)(off:Nat):Option PV:=
 match ti.k.isAgg with
 |true=>match F0 (off+ti.size) cs.length with
   |true=>some (.agg ((cs.drop off).take ti.size))
   |false=>none
 |false=>nth cs off
def untie(sL:Nat->Blk):PV->PV
 | .osl i=>match sL i with
   | .arr u _ _ _ _=> .usl u
   |_=> .osl i
 |p=>p
def untieA(sL:Nat->Blk):PV->PV
 | .agg ps=> .agg (ps.map (untie sL))
 |p=>p
theorem ownV_cell1{k:Nat}{e:TypeId}{v:Value}{en:Option (Nat×Obj)}{len:Nat}{cs:List Value}(h:OwnV k e v en len cs):v.oneCell'=true:=by
 rcases h.2 with ⟨rfl,_⟩|⟨b,cap,c,f,rfl,_⟩<;>rfl
theorem untie_ok{sL:Nat->Blk}{H:Hp}{L:Ls}{p:PV}{v:Value}(hL:∀ i,SimB sL H (sL i) (L i))(h:SimT sL H p v):Sim H (untie sL p) v:=by
 cases p with
 |osl i=>
   simp only[untie]
   simp only[SimT] at h
   have hi:=hL i
   generalize sL i=B at h hi
   cases B with
   |arr u k e enc xs=>
     simp only at h
     subst h
     have⟨cs,ho,_⟩:=hi
     exact .usl (ownV_cell1 ho)
   |_=>exact .osl
 |_=>exact h
theorem untie_cs{sL:Nat->Blk}{H:Hp}{L:Ls}{cs:List PV}{vs:List Value}(hL:∀ i,SimB sL H (sL i) (L i))(h:SimTs sL H cs vs):Sims H (cs.map (untie sL)) vs:=by
 refine⟨by simp[h.1],λi p v hp hv=>?_⟩;rw[B8] at hp
 cases q:cs[i]? with
 |none=>rw[q] at hp;cases hp
 |some p0=>rw[q] at hp;cases hp;exact untie_ok hL (h.2 i p0 v q hv)
def pLoad(tb:Tb)(sL:Nat->Blk)(T:TypeId)(a:PV):Option PR:=
 match lkT tb T with
 |some ti=>match a with
   | .own i b off=>match sL i with
     | .box b' _ cs=>match pCut ti cs off with
       |some p=>match ti.k.isAgg with
         |true=>some ⟨untieA sL p,[],some (i,b',b)⟩
         |false=>some ⟨p,[],some (i,b',b)⟩
       |none=>none
     |_=>none
   | .el row off=>match pCut ti row off with
     |some p=>match p.noOsl with
       |true=>some (.q p)
       |false=>none
     |none=>none
   |_=>none
 |none=>none
theorem SimTs.get{ps:List PV}{vs:List Value}(h:SimTs sL H ps vs){i:Nat}{p:PV}(hp:ps[i]? = some p):∃ v,vs[i]? = some v/\SimT sL H p v:=by
 have hi:i<vs.length:=by
   rw[h.1]
   grind
 exact⟨vs[i],AA hi,h.2 i p _ hp (AA hi)⟩
theorem y_load{tb:Tb}{T:TypeId}{x:Operand}{r:PR}(ht:tbB P tb=true)(hL:∀ i,SimB sL H (sL i) (L i))(hx:Ok1 sL H G F x)(h:pLoad tb sL T (evP G x)=some r)(hp:∀ x,r.lk=some x->x.2.1=x.2.2):Yl P N sL (.load T x) ty F H L r:=by
 unfold Ok1 at hx;generalize evP G x=a at *
 replace hx:=hx.sim
 unfold pLoad at h
 split at h
 . rename_i ti hti
   have hok:=Ef_ ht hti
   have hag:=hok.ag
   split at h
   . rename_i i b off
     split at h
     . rename_i b' T0 cs hb
       split at h
       . rename_i p hc
         have hbi:=hL i
         rw[hb] at hbi
         have⟨vs,hLi,hs⟩:=hbi
         replace hx:=hx.inv_own
         unfold pCut at hc
         split at h
         . rename_i hA
           cases h
           have e:=hp _ Z
           simp only at e
           subst e
           rw[hA] at hag
           simp only[hA] at hc
           split at hc
           . rename_i hl
             cases hc
             refine⟨.agg ((vs.drop off).take ti.size).toArray,Sim.toAgg (by have :=((untie_cs hL hs).drop off).take ti.size;rw[<- List.map_drop,<- List.map_take] at this;exact this),λH' L' _ hl'=>?_⟩
             have hlen:=BZ hl
             exact V3_ (vs:=(vs.drop off).take ti.size) hx hag hok.sz ((hl' (i,_,_) Z).trans hLi) Z (by simp[hs.1];omega)
           . cases hc
         . rename_i hA
           cases h
           have e:=hp _ Z
           simp only at e
           subst e
           rw[hA] at hag
           simp only[hA] at hc
           rw[Gu_] at hc
           have⟨v,hv,hsv⟩:=hs.get hc
           exact⟨v,hsv,λH' L' _ hl'=>Kv_ hx hag ((hl' (i,_,_) Z).trans hLi) hv⟩
       . cases h
     . cases h
   . rename_i row off
     split at h
     . rename_i p hc
       split at h
       case h_2=>cases h
       rename_i hno
       cases h
       have⟨u,k,m,cs,e,h1,h2,h3⟩:=hx.inv_el
       unfold pCut at hc
       split at hc
       . rename_i hA
         rw[hA] at hag
         split at hc
         . rename_i hl
           cases hc
           have hlen:=BZ hl
           refine⟨.agg ((cs.drop off).take ti.size).toArray,Sim.toAgg ((h2.drop off).take ti.size),λH' L' hh _=>?_⟩
           exact lo_loadEfA (k2:=ti.size) (o:=off) (off:=off) (vs:=(cs.drop off).take ti.size) e hag hok.sz (h1.mono hh) Z (by simp[h2.1];omega)
         . cases hc
       . rename_i hA
         rw[hA] at hag
         rw[Gu_] at hc
         have⟨v,hv,hsv⟩:=h2.get hc
         exact⟨v,hsv.simT hno,λH' L' hh _=>lo_loadEf e hag (h1.mono hh) Z hv⟩
     . cases h
   . cases h
 . cases h
def kWide:IntKind->IntKind->Bool
 | .u8, .i8=>false
 | .u8,_=>true
 | .u16, .u16=>true
 | .u16, .u32=>true
 | .u16, .u64=>true
 | .u16, .i32=>true
 | .u16, .i64=>true
 | .u32, .u32=>true
 | .u32, .u64=>true
 | .u32, .i64=>true
 | .u64, .u64=>true
 | .i8, .i8=>true
 | .i8, .i16=>true
 | .i8, .i32=>true
 | .i8, .i64=>true
 | .i16, .i16=>true
 | .i16, .i32=>true
 | .i16, .i64=>true
 | .i32, .i32=>true
 | .i32, .i64=>true
 | .i64, .i64=>true
 |_,_=>false
theorem kWide_ok{k k':IntKind}(h:kWide k k'=true):k'.min<=k.min/\k.max<=k'.max:=by
 cases k<;>cases k'<;>first|(simp[kWide] at h;done)|decide
def pConv(tb:Tb)(T T':TypeId)(a:PV):Option PR:=
 match lkT tb T with
 |some ts=>match lkT tb T' with
   |some td=>match a with
     | .int k x=>match td.k with
       | .int k'=>match kWide k k' with
         |true=>some (.q (.int k' x))
         |false=>some (.q (.int k' (k'.wrap x)))
       |_=>none
     | .str s=>match ts.k with
       | .str=>match td.k with
         | .str=>some (.q (.str s))
         |_=>none
       |_=>none
     |_=>none
   |none=>none
 |none=>none
theorem TIOk.isSome{t:TypeId}{ti:TI}(h:TIOk P t ti):(P.underlying t).isSome=true:=by
 cases e:ti.k with
 |int k=>rw[h.int e];rfl
 |str=>rw[h.str e];rfl
 |bool=>rw[h.bool e];rfl
 |slc q=>rw[h.slc e];rfl
 |agg fs=>have⟨fields,hu,_⟩:=h.agg e;rw[hu];rfl
 |arr=>
   have :=h.k;rw[e] at this;simp only[kB] at this
   grind
 |oth=>
   have :=h.k;rw[e] at this;simp only[kB] at this
   grind
theorem y_conv{tb:Tb}{T T':TypeId}{x:Operand}{r:PR}(ht:tbB P tb=true)(hx:Ok1 sL H G F x)(h:pConv tb T T' (evP G x)=some r):Yl P N sL (.convert T T' x) ty F H L r:=by
 unfold Ok1 at hx;generalize evP G x=a at *
 replace hx:=hx.sim
 unfold pConv at h
 split at h
 . rename_i ts hts
   split at h
   . rename_i td htd
     have hs:=Ef_ ht hts
     have hd:=Ef_ ht htd
     split at h
     . have⟨ex,x1,x2⟩:=hx.inv_int
       split at h
       . rename_i k' hk
         split at h
         . rename_i hw
           cases h
           have hin:=kWide_ok hw
           have hr:k'.min<=_/\_<=k'.max:=⟨Int.le_trans hin.1 x1,GT x2 hin.2⟩
           exact y_of (Sim.int hr.1 hr.2) λ_ _=>Zx_ ex hs.isSome (hd.int hk) hr
         . cases h
           exact y_of (Sim.int (Mh_ _ _).1 (Mh_ _ _).2) λ_ _=>lo_conv ex hs.isSome (hd.int hk)
       . cases h
     . have⟨ex,x1⟩:=hx.inv_str
       split at h
       . rename_i hk
         split at h
         . rename_i hk'
           cases h
           exact y_of (Sim.str x1) λ_ _=>lo_conv_str ex (hs.str hk) (hd.str hk')
         . cases h
       . cases h
     . cases h
   . cases h
 . cases h
def pExt(a:PV)(i:Nat):Option PR:=
 match a with
 | .tup vs=>match nth vs i with
   |some p=>match p.noOsl with
     |true=>some (.q p)
     |false=>none
   |none=>none
 |_=>none
theorem y_ext{x:Operand}{i:Nat}{r:PR}(hx:Ok1 sL H G F x)(h:pExt (evP G x) i=some r):Yl P N sL (.extract x i) ty F H L r:=by
 unfold Ok1 at hx;generalize evP G x=a at *
 replace hx:=hx.sim
 unfold pExt at h
 split at h
 . split at h
   . rename_i p hn
     split at h
     . rename_i ho
       cases h
       rw[Gu_] at hn
       have⟨vs,e,hs⟩:=hx.inv_tup
       have⟨v,hv,hsv⟩:=hs.get hn
       exact y_of (hsv.simT ho) λ_ _=>lo_extract e (by simpa using hv)
     . cases h
   . cases h
 . cases h
def pNil(a:PV):Option PR:=
 match a with
 | .own i b off=>some (.q (.own i b off))
 | .el row o=>some (.q (.el row o))
 | .fn f [] cap=>some (.q (.fn f [] cap))
 | .val (.pointer (some a))=>some (.q (.val (.pointer (some a))))
 |_=>none
theorem y_nil{x:Operand}{r:PR}(hx:Ok1 sL H G F x)(h:pNil (evP G x)=some r):Yl P N sL (.nilCheck x) ty F H L r:=by
 unfold Ok1 at hx;generalize evP G x=a at *
 replace hx:=hx.sim
 unfold pNil at h
 split at h
 . cases h;exact y_of Sim.own λ_ _=>Gq_ hx.inv_own
 . cases h
   have⟨u,k,m,cs,e,h1,h2,h3⟩:=hx.inv_el
   exact y_of (Sim.el h1 h3 h2.2) λ_ _=>Gq_ e
 . cases h
   have⟨vs,us,e,h1,h2⟩:=hx.inv_fn
   cases h1.inv_nil
   exact y_of (Sim.toFn Sims.nil h2) λ_ _=>lo_nilCheckF e
 . cases h;exact y_of Sim.val λ_ _=>Gq_ hx.inv_val
 . cases h
theorem Ws_{G:Nat->PV}{xs:List Operand}(h:∀ x∈xs,Ok1 sL H G F x):Sims H (evPs G xs) (evs F xs):=(Wr_ h).sims
theorem y_mkf{f:FuncId}{xs ys:Array Operand}(hx:∀ x∈xs.toList,Ok1 sL H G F x)(hy:∀ x∈ys.toList,Ok1 sL H G F x):Yl P N sL (.makeFunc (.func f) xs ys) ty F H L (.q (.fn f (evPs G xs.toList) (evPs G ys.toList))):=by
 exact⟨_,Sim.toFn (Ws_ hx) (Ws_ hy),λH' L' _ _=>by simpa using lo_makeFuncB (P:=P) (N:=N) (F:=F) (H:=H') (L:=L') (ty:=ty) (f:=f) (xs:=xs.toList) (ys:=ys.toList) Z Z⟩
def pLen(tb:Tb)(sL:Nat->Blk)(T:TypeId)(a:PV):Option PR:=
 match lkT tb T with
 |some ti=>match a with
   | .str s=>match ti.k with
     | .str=>some (.q (.int .i64 s.length))
     |_=>none
   | .sl _ xs=>match ti.k with
     | .slc _=>some (.q (.int .i64 xs.length))
     |_=>none
   | .osl i=>match ti.k with
     | .slc _=>match sL i with
       | .arr _ _ _ _ xs=>some (.q (.int .i64 xs.length))
       |_=>none
     |_=>none
   |_=>none
 |none=>none
theorem Uk_{m:Nat}(h:m<=9223372036854775807):IntKind.min .i64<=(m:Int)/\(m:Int)<=IntKind.max .i64:=by
 have e1:EP .i64 = -9223372036854775808:=rfl;have e2:DN .i64=9223372036854775807:=rfl;omega
theorem y_len{tb:Tb}{T:TypeId}{x:Operand}{r:PR}(ht:tbB P tb=true)(hL:∀ i,SimB sL H (sL i) (L i))(hx:Ok1 sL H G F x)(h:pLen tb sL T (evP G x)=some r):Yl P N sL (.call ⟨.builtin .len,#[x],#[T]⟩) ty F H L r:=by
 unfold Ok1 at hx;generalize evP G x=a at *;unfold pLen at h
 split at h
 . rename_i ti hti
   have hk:=Ef_ ht hti
   split at h
   . split at h
     . rename_i e
       cases h
       have⟨ex,x1⟩:=hx.sim.inv_str
       exact y_of (Sim.int (Uk_ x1).1 (Uk_ x1).2) λ_ _=>lo_len_str ex (hk.str e)
     . cases h
   . split at h
     . rename_i e
       cases h
       have⟨k,hs,hb⟩:=hx.sim.slh
       have hb':_<=9223372036854775807:=AZ hb qF
       exact⟨_,Sim.int (Uk_ hb').1 (Uk_ hb').2,λH' L' hh _=>lo_len_slh Z (hs.mono hh λ_ _ q=>Qf_ _ _ _ _ hh q) (hk.slc e)⟩
     . cases h
   . rename_i i
     split at h
     . rename_i e
       split at h
       . rename_i hb
         cases h
         have hbi:=hL i
         simp only[SimT,hb] at hx
         rw[hb] at hbi
         have⟨cs,ho,hr,hm⟩:=hbi
         have hm':_<=9223372036854775807:=AZ hm qF
         exact y_of (Sim.int (Uk_ hm').1 (Uk_ hm').2) λ_ _=>Zy_ hx ho (hk.slc e)
       . cases h
     . cases h
   . cases h
 . cases h
def pMM(mx:Bool)(a b:PV):Option PR:=
 match a with
 | .int k x=>match b with
   | .int k' y=>match kEq k k' with
     |true=>some (.q (.int k (match mx with|true=>max x y|false=>min x y)))
     |false=>none
   |_=>none
 |_=>none
theorem max_sim{k:IntKind}{x y:Int}(x1:k.min<=x)(x2:x<=k.max)(y1:k.min<=y)(y2:y<=k.max):Sim H (.int k (max x y)) (.int k (max x y)):= .int qD qD
theorem min_sim{k:IntKind}{x y:Int}(x1:k.min<=x)(x2:x<=k.max)(y1:k.min<=y)(y2:y<=k.max):Sim H (.int k (min x y)) (.int k (min x y)):= .int qD qD
theorem y_max{x y:Operand}{ats:Array TypeId}{r:PR}(hx:Ok1 sL H G F x)(hy:Ok1 sL H G F y)(h:pMM true (evP G x) (evP G y)=some r):Yl P N sL (.call ⟨.builtin .max,#[x,y],ats⟩) ty F H L r:=by
 unfold Ok1 at hx hy;generalize evP G x=a at *;generalize evP G y=b at *;unfold pMM at h
 split at h
 . split at h
   . split at h
     . rename_i hk
       have hk:=of_decide_eq_true hk
       subst hk
       cases h
       have⟨ex,x1,x2⟩:=hx.sim.inv_int
       have⟨ey,y1,y2⟩:=hy.sim.inv_int
       exact y_of (max_sim x1 x2 y1 y2) λ_ _=>lo_max ex ey
     . cases h
   . cases h
 . cases h
theorem y_min{x y:Operand}{ats:Array TypeId}{r:PR}(hx:Ok1 sL H G F x)(hy:Ok1 sL H G F y)(h:pMM false (evP G x) (evP G y)=some r):Yl P N sL (.call ⟨.builtin .min,#[x,y],ats⟩) ty F H L r:=by
 unfold Ok1 at hx hy;generalize evP G x=a at *;generalize evP G y=b at *;unfold pMM at h
 split at h
 . split at h
   . split at h
     . rename_i hk
       have hk:=of_decide_eq_true hk
       subst hk
       cases h
       have⟨ex,x1,x2⟩:=hx.sim.inv_int
       have⟨ey,y1,y2⟩:=hy.sim.inv_int
       exact y_of (min_sim x1 x2 y1 y2) λ_ _=>lo_min ex ey
     . cases h
   . cases h
 . cases h
def PV.cellsOf(p:PV):Option (List PV):=
 match p with
 | .agg cs=>some cs
 |p=>match p.one with
   |true=>some [p]
   |false=>none
theorem Zh_{p:PV}{v:Value}{cs:List PV}(h:Sim H p v)(hc:p.cellsOf=some cs):Sims H cs v.cells.toList:=by
 unfold PV.cellsOf at hc
 split at hc
 . cases hc
   have⟨vs,e,hs⟩:=h.inv_agg
   subst e
   simpa [EZ] using hs
 . split at hc
   . rename_i ho
     cases hc
     have h1:=h.one ho
     have :v.cells = #[v]:=by cases v<;>first|rfl|(simp[Value.oneCell'] at h1)
     rw[this]
     exact Sims.nil.cons h
   . cases hc
def fillP(fs:List (Nat×Nat)):List PV->List (Nat×PV)->Option (List PV)
 |cs,[]=>some cs
 |cs,(i,p)::r=>match nth fs i with
   |some (o,z)=>match p.cellsOf with
     |some c=>match AW c.length z with
       |true=>match F0 (o+z) cs.length with
         |true=>fillP fs (cs.take o++(c++cs.drop (o+z))) r
         |false=>none
       |false=>none
     |none=>none
   |none=>none
def evPp(sL:Nat->Blk)(G:Nat->PV):List (Nat×Operand)->List (Nat×PV)
 |[]=>[]
 |x::r=>(x.1,untie sL (evP G x.2))::evPp sL G r
def pBuild(tb:Tb)(T:TypeId)(ps:List (Nat×PV)):Option PR:=
 match lkT tb T with
 |some ti=>match ti.k with
   | .agg fs=>match fillP fs ti.zero ps with
     |some cs=>some (.q (.agg cs))
     |none=>none
   |_=>none
 |none=>none
theorem fillP_ok(fs:List (Nat×Nat))(hL:∀ i,SimB sL H (sL i) (L i))(hG:∀ t,SimT sL H (G t) (F t)):∀ (ps:List (Nat×Operand)) (cs:List PV) (c:Array Value) (cs':List PV),Sims H cs c.toList->fillP fs cs (evPp sL G ps)=some cs'->∃ c':Array Value,Instr.fill (λi=>fs[i]?) c (evp F ps)=some c'/\Sims H cs' c'.toList
 |[],cs,c,cs',hs,h=>by simp only[evPp,fillP] at h;cases h;exact⟨c,rfl,hs⟩
 |x::r,cs,c,cs',hs,h=>by
   simp only[evPp,fillP] at h
   split at h
   . rename_i o z hn
     rw[Gu_] at hn
     split at h
     . rename_i d hd
       split at h
       . rename_i hz
         have hz:=AQ hz
         split at h
         . rename_i hl
           have hl:=BZ hl
           have hv:=Zh_ (untie_ok hL (Cm_ hG x.2)) hd
           have e1:(ev F x.2).cells.size=z:=by rw[<- hz,<- hv.1];simp
           have e2:c.size=cs.length:=by rw[<- hs.1];simp
           have hfo:=fill_one [] (ev F x.2).cells.toList 0 o c qQ
           have⟨c',h1,h2⟩:=fillP_ok fs hL hG r _ ((ev F x.2).cells.zipIdx.foldl (λcs (c,j)=>cs.setIfInBounds (o+j) c) c) cs' (by
             have :((ev F x.2).cells.zipIdx.foldl (λcs (c,j)=>cs.setIfInBounds (o+j) c) c).toList=c.toList.take o++((ev F x.2).cells.toList++c.toList.drop (o+z)):=by
               rw[<- FG,F8]
               grind
             rw[this]
             exact (hs.take o).append (hv.append (hs.drop _))) h
           refine⟨c',?_,h2⟩
           simp only[evp,FH,hn]
           grind
         . cases h
       . cases h
     . cases h
   . cases h
theorem run_size{t:TypeId}{i:TypeInfo}(w:World)(h:P.info? t=some i):(sizeOf t).run P w = .ok (P.cellsOf t) w:=by simp[sizeOf,typeInfo,h,DR]
theorem run_places(w:World):∀ (l:List Field),(∀ f∈l,∃ i,P.info? f.type=some i)->(l.mapM (λf=>Prod.mk f.offset <$> sizeOf f.type:Field->Sem (Nat×Nat))).run P w = .ok (l.map (λf=>(f.offset,P.cellsOf f.type))) w
 |[],_=>by simp
 |f::r,h=>by
   have⟨i,hi⟩:=h f AG
   have ih:=run_places w r λg hg=>h g (AB _ hg)
   simp[List.mapM_cons,run_size w hi,ih]
theorem y_build{tb:Tb}{T:TypeId}{ps:Array (Nat×Operand)}{r:PR}(ht:tbB P tb=true)(hL:∀ i,SimB sL H (sL i) (L i))(hG:∀ t,SimT sL H (G t) (F t))(h:pBuild tb T (evPp sL G ps.toList)=some r):Yl P N sL (.build T ps) ty F H L r:=by
 unfold pBuild at h
 split at h
 . rename_i ti hti
   have hok:=Ef_ ht hti
   split at h
   . rename_i fs hk
     split at h
     . rename_i cs hf
       cases h
       have⟨fields,hu,hm,hi⟩:=hok.agg hk
       have⟨zv,hz,hzs⟩:=hok.zero
       have⟨c',h1,h2⟩:=fillP_ok fs hL hG ps.toList ti.zero zv.cells cs (hzs H) hf
       have hb:∀ w,(GN T (evp F ps.toList).toArray).run P w = .ok (.agg c') w:=λw=>by
         have hp:=run_places (P:=P) w fields.toList hi
         have e:(fields.mapM (λf=>do pure (f.offset,<- sizeOf f.type):Field->Sem (Nat×Nat))).run P w = .ok fs.toArray w:=by
           rw[Array.mapM_eq_mapM_toList]
           simp[hp,hm]
         have e2:(λi:Nat=>fs.toArray[i]?) = λi:Nat=>fs[i]? :=by funext i;simp
         simp only[GN,CC,hz w,DK,run_underlying hu,e,e2,h1]
         simp
       have :=λH' L'=>lo_build (P:=P) (N:=N) (F:=F) (H:=H') (L:=L') (ty:=ty) (T:=T) (ps:=ps.toList) (v:= .agg c') Z hb
       refine⟨.agg c',Sim.toAgg (vs:=c'.toList) h2,λH' L' _ _=>by simpa using this H' L'⟩
     . cases h
   . cases h
 . cases h
def pop(tb:Tb)(sL:Nat->Blk)(G:Nat->PV)(op:Op):Option PR:=
 match op with
 | .move x=>some (.q (evP G x))
 | .assign x=>some (.q (evP G x))
 | .pick c a b=>pPick (evP G c) (evP G a) (evP G b)
 | .binOp o T x y _=>pBin tb o T (evP G x) (evP G y)
 | .unOp o _ x=>pUn o (evP G x)
 | .fieldAddr T x f=>pFA tb T (evP G x) f
 | .load T x=>pLoad tb sL T (evP G x)
 | .extract x i=>pExt (evP G x) i
 | .nilCheck x=>pNil (evP G x)
 | .convert T T' x=>pConv tb T T' (evP G x)
 | .makeFunc fn xs ys=>match fn with
   | .func f=>some (.q (.fn f (evPs G xs.toList) (evPs G ys.toList)))
   |_=>none
 | .build T ps=>pBuild tb T (evPp sL G ps.toList)
 | .call ⟨.builtin b,args,ats⟩=>match b with
   | .len=>match args.toList with
     |[x]=>match ats.toList with
       |[T]=>pLen tb sL T (evP G x)
       |_=>none
     |_=>none
   | .max=>match args.toList with
     |[x,y]=>pMM true (evP G x) (evP G y)
     |_=>none
   | .min=>match args.toList with
     |[x,y]=>pMM false (evP G x) (evP G y)
     |_=>none
   |_=>none
 |_=>none
theorem arr1{α:Type _}{a:Array α}{x:α}(h:a.toList=[x]):a = #[x]:=E7 pD
theorem arr2{α:Type _}{a:Array α}{x y:α}(h:a.toList=[x,y]):a = #[x,y]:=E7 pD
theorem pop_ok{tb:Tb}{sL:Nat->Blk}{G:Nat->PV}{F:Fr}{H:Hp}{L:Ls}{op:Op}{ty:TypeId}{r:PR}(ht:tbB P tb=true)(hG:∀ t,SimT sL H (G t) (F t))(hL:∀ i,SimB sL H (sL i) (L i))(h:pop tb sL G op=some r)(hp:AllP r.ps)(he:∀ x,r.lk=some x->x.2.1=x.2.2):Yl P N sL op ty F H L r:=by
 have ok:∀ x,Ok1 sL H G F x:=λx=>Cm_ hG x;unfold pop at h
 split at h
 . cases h;exact y_move (ok _)
 . cases h;exact y_assign (ok _)
 exact y_pick (ok _) (ok _) (ok _) h hp;exact y_bin ht (ok _) (ok _) h hp;exact y_un (ok _) h;exact y_fa ht (ok _) h;exact y_load ht hL (ok _) h he;exact y_ext (ok _) h;exact y_nil (ok _) h;exact y_conv ht (ok _) h
 . split at h
   . cases h;exact y_mkf (λx _=>ok x) (λx _=>ok x)
   . cases h
 exact y_build ht hL hG h
 . split at h
   . split at h
     . rename_i e
       split at h
       . rename_i e'
         rw[arr1 e,arr1 e']
         exact y_len ht hL (ok _) h
       . cases h
     . cases h
   . split at h
     . rename_i e
       rw[arr2 e]
       exact y_max (ok _) (ok _) h
     . cases h
   . split at h
     . rename_i e
       rw[arr2 e]
       exact y_min (ok _) (ok _) h
     . cases h
   . cases h
 . cases h
def Mc_:List Operand->List Nat
 |[]=>[]
 | .tmp t::r=>t::Mc_ r
 |_::r=>Mc_ r
def tsOf(op:Op):List Nat:=
 match op with
 | .pick c _ _=>Mc_ [c]
 |op=>Mc_ op.operands.toList
def strip:PV->PV
 | .gv _ v=>v
 |p=>p
def strG(ts:List Nat)(G:Nat->PV):Nat->PV:=λt=>bif memB ts t then strip (G t) else G t
def Rp_(G:Nat->PV)(g:Bool):List Nat->List Prop->List Prop
 |[],k=>k
 |t::r,k=>match G t with
   | .gv c _=>(g=true->c=true)::Rp_ G g r k
   |_=>Rp_ G g r k
def guardP(g:Bool):List Prop->List Prop
 |[]=>[]
 |p::r=>(g=true->p)::guardP g r
def pG1(tb:Tb)(sL:Nat->Blk)(G:Nat->PV)(op:Op)(g:Bool):Option PR:=
 match pop tb sL (strG (tsOf op) G) op with
 |some ⟨v,ps,lk⟩=>match v.noOsl with
   |true=>some ⟨.gv g v,Rp_ G g (tsOf op) (guardP g ps),lk⟩
   |false=>none
 |none=>none
def gOf(b want:Bool):Bool:=match want with
 |true=>b
 |false=>!b
def gC(p:PV)(want:Bool):Option Bool:=
 match p with
 | .bool b=>some (gOf b want)
 | .gv c q=>match q with
   | .bool b=>some (c&&gOf b want)
   |_=>none
 |_=>none
def StLe(s s':St):Prop:=∀ H0 F H L,Abs H0 s F H L->Abs H0 s' F H L
theorem StLe.trans{a b c:St}(h:StLe a b)(k:StLe b c):StLe a c:=λH0 F H L x=>k H0 F H L (h H0 F H L x)
abbrev Qs:=Exit->St->Prop
def ql(H0:Env)(Q:Qs):Qt:=λe F H L=>∃ s,Abs H0 s F H L/\Q e s
def Sw(P:Program)(n:Nat)(N:Rest)(H0:Env)(c:Code)(Q:Qs)(s:St):Prop:=∀ F H L,Abs H0 s F H L->Cw P n N c (ql H0 Q) F H L
def So(P:Program)(n:Nat)(N:Rest)(H0:Env)(all rest:List Oper)(Q:Qs)(s:St):Prop:=∀ F H L,Abs H0 s F H L->Ow P n N all rest (ql H0 Q) F H L
variable{H0:Env}
theorem Sw.le{c:Code}{Q:Qs}{s s':St}(h:StLe s s')(k:Sw P n N H0 c Q s'):Sw P n N H0 c Q s:=λF H L x=>k F H L (h _ _ _ _ x)
theorem So.le{all rest:List Oper}{Q:Qs}{s s':St}(h:StLe s s')(k:So P n N H0 all rest Q s'):So P n N H0 all rest Q s:=λF H L x=>k F H L (h _ _ _ _ x)
inductive Kt where
 |seq (y:Code)
 |blk (id:Nat)
 |sc
 |lp (J:St->Prop)
def Kt.den(P:Program)(n:Nat)(N:Rest)(H0:Env):List Kt->Qs->Qs
 |[],Q=>Q
 | .seq y::r,Q=>λe s=>match e with
   | .normal=>Sw P n N H0 y (Kt.den P n N H0 r Q) s
   |e=>Kt.den P n N H0 r Q e s
 | .blk id::r,Q=>λe s=>match e with
   | .exit i=>bif AW i id then Kt.den P n N H0 r Q .normal s else Kt.den P n N H0 r Q (.exit i) s
   |e=>Kt.den P n N H0 r Q e s
 | .sc::r,Q=>λe s=>match e with
   | .goto _=>False
   |e=>Kt.den P n N H0 r Q e s
 | .lp J::r,Q=>λe s=>match e with
   | .normal=>J s
   |e=>Kt.den P n N H0 r Q e s
theorem sw_seq{x y:Code}{ks:List Kt}{Q:Qs}{s:St}(h:Sw P n N H0 x (Kt.den P n N H0 (.seq y::ks) Q) s):Sw P n N H0 (.seq x y) (Kt.den P n N H0 ks Q) s:=by
 intro F H L ha;refine Ki_ (Kq_ ?_ (h F H L ha));intro e F' H' L' hq;have⟨s',ha',hq'⟩:=hq
 cases e with
 |normal=>exact hq' F' H' L' ha'
 |_=>exact⟨s',ha',hq'⟩
theorem sw_block{id:Nat}{c:Code}{ks:List Kt}{Q:Qs}{s:St}(h:Sw P n N H0 c (Kt.den P n N H0 (.blk id::ks) Q) s):Sw P n N H0 (.block id c) (Kt.den P n N H0 ks Q) s:=by
 intro F H L ha;refine cw_block (Kq_ ?_ (h F H L ha));intro e F' H' L' hq;have⟨s',ha',hq'⟩:=hq
 cases e with
 |«exit» i=>
   simp only[Kt.den] at hq'
   simp only[blkK]
   cases e:AW i id with
   |true=>rw[e] at hq';exact⟨s',ha',hq'⟩
   |false=>rw[e] at hq';exact⟨s',ha',hq'⟩
 |_=>exact⟨s',ha',hq'⟩
theorem sw_scope{c:Code}{ks:List Kt}{Q:Qs}{s:St}(h:Sw P n N H0 c (Kt.den P n N H0 (.sc::ks) Q) s):Sw P n N H0 (.scope c) (Kt.den P n N H0 ks Q) s:=by
 intro F H L ha;refine cw_scope (Kq_ ?_ (h F H L ha));intro e F' H' L' hq;have⟨s',ha',hq'⟩:=hq
 cases e with
 |goto l=>exact hq'.elim
 |_=>exact⟨s',ha',hq'⟩
theorem sw_skip{Q:Qs}{s:St}(h:Q .normal s):Sw P n N H0 .skip Q s:=λF H L ha=>cw_skip ⟨s,ha,h⟩
theorem sw_label{l:Nat}{Q:Qs}{s:St}(h:Q .normal s):Sw P n N H0 (.label l) Q s:=λF H L ha=>cw_label ⟨s,ha,h⟩
theorem sw_exit{i:Nat}{Q:Qs}{s:St}(h:Q (.exit i) s):Sw P n N H0 (.exit i) Q s:=λF H L ha=>cw_exit ⟨s,ha,h⟩
theorem sw_ret{Q:Qs}{s:St}(h:Q .ret s):Sw P n N H0 .ret Q s:=λF H L ha=>cw_ret ⟨s,ha,h⟩
theorem sw_region{id:Nat}{l:Array Oper}{Q:Qs}{s:St}(h:So P n N H0 l.toList l.toList Q s):Sw P n N H0 (.region id l false) Q s:=λF H L ha=>by
 have :=F6_ (id:=id) (h F H L ha)
 exact sU
theorem so_nil{all:List Oper}{Q:Qs}{s:St}(h:Q .normal s):So P n N H0 all [] Q s:=λF H L ha=>Jt_ ⟨s,ha,h⟩
theorem sw_cond{c:Operand}{x y:Code}{Q:Qs}{s:St}{b:Bool}(hc:evP s.F c = .bool b)(ht:b=true->Sw P n N H0 x Q s)(hf:b=false->Sw P n N H0 y Q s):Sw P n N H0 (.cond c x y) Q s:=λF H L ha=>by
 have h1:=Cm_ ha.f c
 unfold Ok1 at h1
 rw[hc] at h1
 exact cw_cond h1.sim.inv_bool (λe=>ht e F H L ha) (λe=>hf e F H L ha)
theorem so_pop{tb:Tb}{all rest:List Oper}{op:Op}{ty d:Nat}{pos:String}{af:Array Edge}{Q:Qs}{s:St}{r:PR}(ht:tbB P tb=true)(hd:Nat.blt d n=true)(h:pop tb s.L s.F op=some r)(hp:AllP r.ps)(he:∀ x,r.lk=some x->x.2.1=x.2.2)
   (k:So P n N H0 all rest Q ⟨updp s.F d r.v,s.L⟩):So P n N H0 all (⟨some d,op,ty,pos,af,none⟩::rest) Q s:=λF H L ha=>by
 have⟨val,h1,h2⟩:=pop_ok (N:=N) (ty:=ty) ht ha.f ha.l h hp he
 exact ow1 (Iv_ hd (h2 H L (.refl H) (λ_ _=>rfl)) (k _ _ _ (ha.put d h1)))
theorem M3_{t:Nat}:∀ {ts:List Nat},memB ts t=true->t∈ts
 |[],h=>by cases h
 |s::r,h=>by
   simp only[memB] at h
   cases e:AW t s with
   |true=>rw[AQ e];exact AG
   |false=>rw[e] at h;exact AB _ (M3_ h)
theorem J0_{G:Nat->PV}{g:Bool}:∀ {ts:List Nat} {k:List Prop},AllP (Rp_ G g ts k)->AllP k/\∀ t∈ts,∀ c v,G t = .gv c v->g=true->c=true
 |[],k,h=>⟨h,λt ht=>by cases ht⟩
 |t::r,k,h=>by
   simp only[Rp_] at h
   split at h
   . rename_i c v e
     have⟨h1,h2⟩:=h
     have⟨h3,h4⟩:=J0_ h2
     refine⟨h3,λt' ht' c' v' e' hg=>?_⟩
     rcases List.mem_cons.1 ht' with rfl|q
     . rw[e] at e';cases e';exact h1 hg
     . exact h4 t' q c' v' e' hg
   . rename_i hne
     have⟨h3,h4⟩:=J0_ h
     refine⟨h3,λt' ht' c' v' e' hg=>?_⟩
     rcases List.mem_cons.1 ht' with rfl|q
     . exact absurd e' (hne c' v')
     . exact h4 t' q c' v' e' hg
theorem Wv_{g:Bool}(hg:g=true):∀ {ps:List Prop},AllP (guardP g ps)->AllP ps
 |[],h=>h
 |_::_,h=>⟨h.1 hg,Wv_ hg h.2⟩
theorem N5_{sL:Nat->Blk}{G:Nat->PV}{F:Fr}{H:Hp}{ts:List Nat}(hG:∀ t,SimT sL H (G t) (F t))(hc:∀ t∈ts,∀ c v,G t = .gv c v->c=true)(hn:∀ t∈ts,(strip (G t)).noOsl=true\/strip (G t)=G t)(t:Nat):SimT sL H (strG ts G t) (F t):=by
 unfold strG
 cases e:memB ts t with
 |false=>exact hG t
 |true=>
   have hm:=M3_ e
   have h1:=hG t
   show SimT sL H (strip (G t)) (F t)
   rcases hn t hm with q|q
   . refine Sim.simT ?_ q
     have h1:=h1.sim
     generalize he:G t=p at *
     cases p with
     |gv c v=>
       have :=hc t hm c v he
       subst this
       rcases h1.inv_gv with ⟨_,h2⟩|⟨h2,_⟩
       . exact h2
       . cases h2
     |_=>exact h1
   . rw[q];exact h1
def Ns_(G:Nat->PV):List Nat->Bool
 |[]=>true
 |t::r=>(match G t with| .gv _ v=>v.noOsl|_=>true)&&Ns_ G r
theorem Ja_{G:Nat->PV}:∀ {ts:List Nat},Ns_ G ts=true->∀ t∈ts,(strip (G t)).noOsl=true\/strip (G t)=G t
 |[],_,t,ht=>by cases ht
 |a::r,h,t,ht=>by
   simp only[Ns_,A5] at h
   rcases List.mem_cons.1 ht with rfl|q
   . generalize G t=p at *
     cases p with
     |gv c v=>exact .inl h.1
     |_=>exact .inr Z
   . exact Ja_ h.2 t q
end Go.SW
