/-
  A part of the proof of VaultAgain: What functions answer, printed by program out of their walks: stairwelllaw03.awake, stairwelllaw03.Awake,
-/
import Derived.Test.YtfojlhfchpkhlaaGreatDoorVaultAgainP3
import Derived.Lib.ItoaLen
import Derived.Lib.Join
set_option linter.unusedVariables false
set_option linter.unusedSimpArgs false
set_option maxRecDepth 100000
set_option maxHeartbeats 4000000
open Bool renaming and_eq_false_iff->D8,and_eq_true->A5,and_false->GC,and_self->EM,and_true->BU,false_and->BH,not_eq_false'->AN,not_false->AE,not_true->A2,or_eq_false_iff->AO,or_false->DJ,or_self->EX,true_and->EN,true_or->FC
open Go.IntKind renaming wrap->A0,wrap_u64->DM
open Go.Lib renaming repeatL->AY
open Go.Value renaming pointer->CU
open Int renaming le_of_eq->GV,le_refl->BX,toNat_natCast->AI
open List renaming append_assoc->A7,append_nil->AJ,cons_append->D0,drop_append->C5,drop_drop->C1,drop_eq_nil_iff->FA,drop_left->GA,drop_of_length_le->A9,drop_take->DG,find?_append->DQ,find?_some->G0,flatMap_cons->B9,flatMap_nil->FX,flatten_cons->AP,flatten_nil->AU,getD_eq_getElem?_getD->AS,getElem?_append_right->BB,getElem?_set_ne->FB,length->BL,length_append->A1,length_cons->A3,length_drop->AM,length_nil->A6,length_replicate->BN,length_take->B5,map_append->BK,map_cons->BC,map_nil->DC,mem_append->CK,mem_cons_of_mem->AB,mem_cons_self->AG,mem_of_getElem?->A4,mem_of_mem_drop->AX,mem_or_eq_of_mem_set->BO,mem_singleton->CL,nil_append->AV,nodup_append->BW,replicate->AH,replicate_append_replicate->DT,set_cons_succ->FR,set_cons_zero->FQ,set_eq_of_length_le->C6,singleton_append->F5,take_add->GI,take_append->C4,take_append_drop->B6,take_append_of_le_length->BM,take_drop->GD,take_of_length_le->AD,take_take->EB,take_zero->GB
open Nat renaming le_refl->BF,le_trans->AZ,lt_succ_self->CI,min_eq_left->EJ,sub_add_cancel->DL,sub_self->CQ,sub_zero->GW,zero_add->BD,zero_le->AT
namespace Go.SW.V
open Go.SW
def W6_:Bool:=
 lt (Jk_ [50,58,48,58,53]) λr=>
 lt (Jk_ [51,58,48,58,53,58,55]) λr1=>
 lt (Jk_ [51,58,53]) λr2=>
 ((((((decide (r.2=0))&&(decide (r1.2=0)))&&(decide (r2.2=0)))&&(Ii_ r.1 r1.1))&&(!(Ii_ r.1 r2.1)))&&(!(Ii_ r1.1 r.1)))
def W5_:Bool:=
 (W6_)
def W9_:Bool:=
 lt (Qc_ [119,111,114,107,32,52,10,103,105,118,101,32,49,10,108,97,98,101,108,32,108,111,119,32,48,32,53,49,50,32,49,10,115,108,111,116,32,108,111,119]) λr=>
 (((((((W5_)&&true)&&(decide (r.2.1=0)))&&(decide (r.2.2=0)))&&(decide ((r.1.places.length:Int)=1)))&&(decide (r.1.work=4)))&&(decide (((gt r.1.places 0).bytes)=512)))
def W7_:Bool:=
 (W9_)
def Xg_:Bool:=
 lt (C9_ bE (⟨3,[97],[],[],[],0,0⟩:Mail)) λr=>
 lt (C9_ r.1 (⟨5,[97],[],[],[],0,0⟩:Mail)) λr1=>
 lt (E8_ r1.1) λr2=>
 lt (E8_ r2.1) λr3=>
 lt (F3_ r3.1 3) λr4=>
 lt (C6_ r4.1) λr5=>
 (((((((((decide (r.2=0))&&(decide (r1.2=0)))&&r2.2.2)&&(decide (r2.2.1.Ah_.id=3)))&&r3.2.2)&&(decide (r3.2.1.Ah_.id=5)))&&(decide (r4.2=0)))&&r5.2)&&(decide (r5.1.id=3)))
def Xf_:Bool:=
 (Xg_)
def Nm_:Nat->Nat->B8_->Bool
 |0,_,_=>default
 | f2+1,v,x=>(bif decide ((v:Int)<40) then
 lt (Ei_ x (⟨0,(A0 .u8 (v:Int)),[]⟩:Eb_)) λr=>
 Nm_ f2 (v+1) r.1
 else lt (Kx_ x 9) λr1=>
 lt (Kx_ x 8) λr2=>
 (((r1.2&&(decide (r1.1.kind=8)))&&(!r2.2))&&(decide ((Lh_ x)=40))))
def Ta_:Bool:=
 Nm_ (40-0+1) 0 bD
def Xh_:Bool:=
 (Ta_)
def Nn_:Nat->Nat->Al_->Bool
 |0,_,_=>default
 | f2+1,v,x=>(bif decide ((v:Int)<20) then
 lt (Da_ x bB) λr=>
 Nn_ f2 (v+1) r.1
 else lt (K1_ x 0) λr1=>
 lt (K1_ x 20) λr2=>
 (((decide (r1.1=5))&&r1.2.2)&&(!r2.2.2)))
def Tb_:Bool:=
 Nn_ (20-0+1) 0 aR
def Xi_:Bool:=
 (Tb_)
def Xk_:Bool:=
 lt (Bl_ 7 100) λr=>
 lt (Bb_ r (⟨[113],3,0,[]⟩:M_)) λr1=>
 lt (B4_ r1.1 [113] bB) λr2=>
 (((((Xf_)&&(Xi_))&&(decide (r1.2=0)))&&(decide (r2.2.2.2=0)))&&(decide (r2.2.1=7)))
def Xj_:Bool:=
 (Xk_)
def No_:Nat->Nat->D_->Bool
 |0,_,_=>default
 | f2+1,v,x=>(bif decide ((v:Int)<([aZ,aY,bA].length:Int)) then
 lt (H_ x (gt [aZ,aY,bA] v)) λr1=>
 (bif !decide (r1.2.2=0) then
 false
 else No_ f2 (v+1) r1.1)
 else lt (H_ x bN) λr2=>
 lt (H_ r2.1 (⟨7,0,aO,aM,aP,[113],0,0,0,0,0,aJ,[]⟩:G_)) λr3=>
 ((((((((W7_)&&(Xj_))&&true)&&(Xh_))&&(decide (r2.2.2=0)))&&(decide (r2.2.1.count=1)))&&(decide (r3.2.2=0)))&&(decide (r3.2.1.item.Ah_.body=[120]))))
def Tc_:Bool:=
 lt (At_ aW 0) λr=>
 No_ (([aZ,aY,bA].length)-0+1) 0 r
theorem deed_hops{l:List G_}{k:Nat}{d:G_}(h:(PV.sl G_.pc l).wf)(hd:l[k]? = some d):0<=d.Ah_.hops:=by
 have :=(h.2 d (A4 hd)).2.2.2.2.2.2.2.2.2.2.2.2.2.2.2.2.2.2.2.2.2.2.2.2.2.2.2.1;exact this.1
theorem all_len0:∀ (t out:List Z_),(E7_ t out).length=out.length+t.length
 |[],out=>rfl
 |x::t,out=>by
   unfold E7_ lt
   rw[all_len0 t];simp;omega
theorem all_len{l:Ax_}(h:LnOk l):(Fv_ l).length<=64:=by
 unfold Fv_;rw[all_len0];have :=h.1;simp;omega
structure Clo(B:A3_->Prop)(K:I_->Prop)(M:B8_->Prop):Prop where
 ma:∀ {b x},0<=x.sort->B b->B (C0_ b x).1
 bd:∀ {b x},(∀ p∈x.want,p.wf)->B b->B (Bv_ b x).1
 dp:∀ {b n},B b->B (Ft_ b n).1
 ub:∀ {b x},B b->B (Er_ b x).1
 fg:∀ {b q},B b->B (D1_ b q)
 km:∀ {k q},K k->K (Bb_ k q).1
 kd:∀ {k n},K k->K (Bz_ k n).1
 kp:∀ {k n m},StkOk k->K k->K (B4_ k n m).1
 kl:∀ {k n},K k->K (Dj_ k n).1
 kr:∀ {k n i},K k->K (Ba_ k n i).1
 kb:∀ {k n i},K k->K (Dx_ k n i).1
 ks:∀ {k p m},K k->K (Cp_ k p m).1
 kw:∀ {k},StkOk k->K k->K (Fx_ k)
 na:∀ {n x},0<=x.kind/\x.kind<=255->M n->M (Ei_ n x).1
def Cl(B:A3_->Prop)(K:I_->Prop)(M:B8_->Prop)(s:D_):Prop:=B s.x.book/\K s.x.E_/\M s.x.notes
section
variable{B:A3_->Prop}{K:I_->Prop}{M:B8_->Prop}(C:Clo B K M)
include C
variable{s:D_}
omit C in
section
variable{m:Mail}{tick:Int}{r:List Bs×List Bs×Int}
end
section
variable{d:G_}
end
end
def BiB(y:Q_):Prop:=y.Bm_.length<=16/\F1_ y.to'=0/\y.key.length<=64/\H2_ y.want=0/\∀ p∈y.want,p.wf
def BkB(b:A3_):Prop:=(∀ s∈b.Bs_,L2_ s=0/\0<=s.sort)/\∀ y∈b.binds,BiB y
def RoB(k:I_):Prop:=∀ r∈k.rows,Bw_ r.q=0
def NoB(n:B8_):Prop:=∀ x∈n.kept,x.text.length<=64/\0<=x.kind/\x.kind<=255
theorem Om_{s:Bs}(h:F1_ s=0):s.length<=16:=by
 unfold F1_ at h
 split at h
 . cases h
 . split at h
   . cases h
   omega
theorem keyE_len{l:List Bs}{s:Bs}(h:keyE l s=0):s.length<=64:=by
 unfold keyE at h
 split at h
 . cases h
 omega
theorem U0_{x:W_}(h:L2_ x=0):x.name.length<=16/\x.to'.length<=16/\x.sort<=4:=by
 unfold L2_ at h
 split at h
 exact uW
 . rename_i q
   split at h
   . cases h
   . refine⟨Om_ pX,?_,by omega⟩
     split at h
     exact Om_ h
     . split at h
       . cases h
       . rename_i q2;rw[show x.to'=[] by simpa using q2];simp
theorem Tw_{q:M_}(h:Bw_ q=0):q.name.length<=16/\q.dead.length<=16/\1<=q.most/\q.most<=64:=by
 unfold Bw_ at h;by_cases q1:F1_ q.name=0
 . rw[decide_eq_true q1] at h
   simp only[A2,cond_false] at h
   cases e:(decide (q.most<1) || decide (64<q.most)) with
   |true=>rw[e] at h;cases h
   |false=>
     rw[e] at h
     simp only[cond_false] at h
     simp only[AO,decide_eq_false_iff_not] at e
     refine⟨Om_ q1,?_,by omega,by omega⟩
     by_cases q2:q.dead=[]
     . rw[q2];simp
     . rw[decide_eq_false q2] at h;exact Om_ h
 rw[decide_eq_false q1] at h;exact (q1 h).elim
theorem mem_td{α:Type}{l:List α}{a b:Nat}{x:α}(h:x∈[l.take a,l.drop b].flatten):x∈l:=by
 simp only[AP,AU,AJ,CK] at h
 rcases h with h|h
 exact List.mem_of_mem_take h;exact AX h
theorem P7_{α:Type}{l:List α}{y x:α}(h:x∈[l,[y]].flatten):x∈l\/x=y:=by
 simpa using h
theorem V1_(f:Q_->Bool):∀ (t out:List Q_) (y:Q_),y∈Dm_ f t out->y∈out\/y∈t
 |[],out,y,h=> .inl h
 |x::t,out,y,h=>by
   unfold Dm_ at h
   cases e:f x with
   |true=>
     rw[e] at h
     rcases V1_ f t _ y h with q|q
     . rcases List.mem_append.1 q with q|q
       . exact .inl q
       . exact .inr (by rw[List.mem_singleton.1 q];simp)
     . exact .inr (by simp[q])
   |false=>
     rw[e] at h
     rcases V1_ f t _ y h with q|q
     . exact .inl q
     . exact .inr (by simp[q])
theorem ruleE_f{r:Rule}(h:T4_ r=0):r.key.length<=64/\H2_ r.want=0:=by
 unfold T4_ at h
 split at h
 . cases h
 . split at h
   . split at h
     exact uW
     . rename_i q;exact⟨keyE_len pX,h⟩
   . split at h
     exact uW
     . rename_i q;exact⟨keyE_len pX,h⟩
theorem shopOf_mem{l:List W_}{n:Bs}(h:(Fl_ l n).isSome=true):∃ s∈l,s.name=n:=by
 have⟨s,hs⟩:=Option.isSome_iff_exists.1 h;exact⟨s,List.mem_of_find?_eq_some hs,by simpa using G0 hs⟩
theorem Q6_{s:I_}{k:Int}{l:Ax_}(h:RoB s):RoB (Ak_ s k l):=λr hr=>by
 have hr:r∈s.rows.set k.toNat ⟨(gt s.rows k.toNat).q,l⟩:=hr
 by_cases q:k.toNat<s.rows.length
 . rcases BO hr with e|e
   . exact h r e
   . rw[e];exact h (gt s.rows k.toNat) (A4 (getG q))
 . rw[C6 qD] at hr;exact h r hr
theorem rob_wake:∀ (t:List Go_) (k:Nat) (x:I_),RoB x->RoB (Cv_ t k x)
 |[],_,_,h=>h
 |_::t,k,_,h=>rob_wake t (k+1) _ (Q6_ h)
theorem cloB:Clo BkB RoB NoB where
 ma:=λ{b x} hq h=>by
   unfold C0_
   let Q:A3_×Int->Prop:=λr=>BkB r.1
   refine bt (P:=Q) (λ_=>h) λe=>bt (P:=Q) (λ_=>h) λ_=>bt (P:=Q) (λ_=>h) λ_=>bt (P:=Q) (λ_=>h) λ_=>⟨λs hs=>?_,h.2⟩
   rcases P7_ hs with q|q
   . exact h.1 s q
   . rw[q];exact⟨by simpa using e,hq⟩
 bd:=λ{b x} hw h=>by
   unfold Bv_ lt
   let Q:A3_×Int->Prop:=λr=>BkB r.1
   refine bt (P:=Q) (λ_=>h) λe1=>bt (P:=Q) (λ_=>h) λ_=>bt (P:=Q) (λ_=>h) λe2=>bt (P:=Q) (λ_=>h) λe3=>bt (P:=Q) (λ_=>h) λ_=>bt (P:=Q) (λ_=>h) λ_=>⟨h.1,λy hy=>?_⟩
   rcases P7_ hy with q|q
   . exact h.2 y q
   . rw[q]
     obtain⟨s,hs,hn⟩:=shopOf_mem (by simpa using e1)
     have hr:=ruleE_f (by simpa using e3)
     exact⟨by rw[<- hn];exact (U0_ (h.1 s hs).1).1,by simpa using e2,hr.1,hr.2,hw⟩
 dp:=λ{b n} h=>by
   unfold Ft_ lt
   let Q:A3_×Int->Prop:=λr=>BkB r.1
   refine bt (P:=Q) (λ_=>h) λ_=>⟨λs hs=>h.1 s (mem_td hs),λy hy=>?_⟩
   rcases V1_ _ _ _ y hy with q|q
   . cases q
   . exact h.2 y q
 ub:=λ{b x} h=>by
   unfold Er_ lt
   let Q:A3_×Int->Prop:=λr=>BkB r.1
   exact bt (P:=Q) (λ_=>h) λ_=>⟨h.1,λy hy=>h.2 y (mem_td hy)⟩
 fg:=λ{b q} h=>⟨h.1,λy hy=>by
   rcases V1_ _ _ _ y hy with q|q
   . cases q
   . exact h.2 y q⟩
 km:=λ{k q} h=>by
   unfold Bb_ lt
   let Q:I_×Int->Prop:=λr=>RoB r.1
   refine bt (P:=Q) (λ_=>h) λe=>bt (P:=Q) (λ_=>h) λ_=>bt (P:=Q) (λ_=>h) λ_=>bt (P:=Q) (λ_=>h) λ_=>λr hr=>?_
   rcases P7_ hr with q|q
   . exact h r q
   . rw[q];simpa using e
 kd:=λ{k n} h=>by
   unfold Bz_ lt
   let Q:I_×Int->Prop:=λr=>RoB r.1
   exact bt (P:=Q) (λ_=>h) λ_=>λr hr=>h r (mem_td hr)
 kp:=λ{k n m} _ h=>by
   unfold B4_ lt
   let Q:I_×Int×Mail×Int->Prop:=λr=>RoB r.1
   refine bt (P:=Q) (λ_=>h) λ_=>bt (P:=Q) (λ_=>h) λ_=>bt (P:=Q) (λ_=>h) λ_=>?_
   refine lp2E (P:=Q) (λ_=>True) ?_ λx x1 _=>?_
   . exact bt (P:=LoP _ _) (λ_=>bt (P:=LoP _ _) (λ_=>h) λ_=>trivial) λ_=>trivial
   . exact bt (P:=Q) (λ_=>h) λ_=>bt (P:=Q) (λ_=>h) λ_=>λr hr=>Q6_ (k:=O_ k n) h r hr
 kl:=λ{k n} h=>by
   unfold Dj_ lt
   let Q:I_×Z_×Bool->Prop:=λr=>RoB r.1
   exact zH
 kr:=λ{k n i} h=>by
   unfold Ba_ lt
   let Q:I_×Z_×Int->Prop:=λr=>RoB r.1
   exact zH
 kb:=λ{k n i} h=>by
   unfold Dx_ lt
   let Q:I_×Int->Prop:=λr=>RoB r.1
   exact zH
 ks:=λ{k p m} h=>by
   unfold Cp_ lt
   let Q:I_×Int->Prop:=λr=>RoB r.1
   exact zI
 kw:=λ{k} _ h=>rob_wake _ _ _ h
 na:=λ{n x} hk h=>by
   unfold Ei_
   let Q:B8_×Int->Prop:=λr=>NoB r.1
   refine bt (P:=Q) (λ_=>h) λe=>bt (P:=Q) (λ_=>h) λ_=>λy hy=>?_
   simp only[decide_eq_false_iff_not] at e
   rcases P7_ (AX hy) with q|q
   . exact h y q
   . rw[q];exact⟨by omega,hk⟩
def StB(s:D_):Prop:=Cl BkB RoB NoB s
theorem newB(p:F_)(k:Int):StB (At_ p k):=⟨⟨(λ_ h=>by cases h),λ_ h=>by cases h⟩,(λ_ h=>by cases h),λ_ h=>by cases h⟩
def U64(t:Int):Prop:=0<=t/\t<=18446744073709551615
structure Clw(T:Int->Prop)(W:Mail->Prop)(K:I_->Prop)(M:B8_->Prop):Prop where
 kp:∀ {k n m},StkOk k->W m->K k->K (B4_ k n m).1/\W (B4_ k n m).2.2.1
 kl:∀ {k n},K k->K (Dj_ k n).1
 kr:∀ {k n i},K k->K (Ba_ k n i).1/\W (Ba_ k n i).2.1.Ah_
 kb:∀ {k n i},K k->K (Dx_ k n i).1
 ks:∀ {k p m},W m->K k->K (Cp_ k p m).1
 kw:∀ {k},StkOk k->K k->K (Fx_ k)
 kt:∀ {k t},K k->W (Bf_ k t).2.1
 na:∀ {n x},T x.tick->0<=x.kind/\x.kind<=255->M n->M (Ei_ n x).1
 wd:∀ {m t l},W m->W ⟨0,m.Bm_,m.key,m.head,m.body,K4_ m.due t l,m.hops⟩
 wr:∀ {m},W m->W ⟨0,m.Bm_,m.key,m.head,m.body,m.due,m.hops⟩
 wb:∀ {m s},W m->W ⟨m.id,s,m.key,m.head,m.body,0,IntKind.wrap .u8 (m.hops+1)⟩
 wp:∀ {m},W m->W ⟨m.id,m.Bm_,m.key,m.head,m.body,m.due,IntKind.wrap .u8 (m.hops+1)⟩
def Sp(a:A8_SpentR):Prop:=∀ i,i<8->U64 (A8.get a i).round
theorem round_u{p:F_}{t:Int}(h:U64 t):U64 (Nd_ p t):=by
 unfold Nd_;have⟨h1,h2⟩:=h;have h3:0<=t/(p.slots.length:Int):=Int.ediv_nonneg h1 qD;have h4:t/(p.slots.length:Int)<=t:=Int.ediv_le_self _ h1;exact⟨h3,by omega⟩
theorem Sp.all{a:A8_SpentR}(h:Sp a)(k:Nat):U64 (A8.get a k).round:=by
 by_cases q:k<8;exact h k q;obtain⟨n,rfl⟩:∃ n,k=n+8:=⟨_,(DL qD).symm⟩;exact h 7 qF
theorem Sp.set{a:A8_SpentR}(h:Sp a){x:Ai_}(hx:U64 x.round)(k:Nat):Sp (A8.set a x k):=by
 have key:∀ k,k<8->Sp (A8.set a x k):=λk hk i hi=>by
   rw[A8.get_set _ _ _ _ hk hi]
   by_cases q:i=k
   . rw[if_pos q];exact hx
   . rw[if_neg q];exact h i hi
 by_cases q:k<8;exact key k q;obtain⟨n,rfl⟩:∃ n,k=n+8:=⟨_,(DL qD).symm⟩;exact key 7 qF
def seenW(s:D_)(d:G_):D_:=⟨⟨s.x.book,s.x.E_,s.x.notes,A16.set s.x.seen d.number d.frm.toNat,s.x.spent⟩,s.U_,s.place⟩
structure Kw(T:Int->Prop)(K:I_->Prop)(M:B8_->Prop)(s0 s:D_):Prop where
 po:s.U_=s0.U_
 pl:s.place=s0.place
 bo:s.x.book=s0.x.book
 k:K s.x.E_
 n:M s.x.notes
 se:s.x.seen=s0.x.seen
 sp:(∀ t,T t->U64 t)->Sp s0.x.spent->Sp s.x.spent
section
variable{T:Int->Prop}{W:Mail->Prop}{K:I_->Prop}{M:B8_->Prop}(C:Clw T W K M){s0 s:D_}
include C
omit C in
theorem Kw.E_(h:Kw T K M s0 s){k:I_}(hk:K k):Kw T K M s0 ⟨⟨s.x.book,k,s.x.notes,s.x.seen,s.x.spent⟩,s.U_,s.place⟩:=⟨h.po,h.pl,h.bo,hk,h.n,h.se,h.sp⟩
theorem Kw.note(h:Kw T K M s0 s){t k:Int}{x:Bs}(ht:T t)(hk:0<=k/\k<=255):Kw T K M s0 (C4_ s t k x):=⟨h.po,h.pl,h.bo,h.k,C.na ht hk h.n,h.se,h.sp⟩
theorem Kw.spend(h:Kw T K M s0 s){to' t:Int}(ht:T t):Kw T K M s0 (Es_ s to' t).1:=by
 unfold Es_ lt;let Q:D_×Int->Prop:=λr=>Kw T K M s0 r.1;refine bt (P:=Q) (λ_=>h) λ_=>lt1E (P:=Q) (λx:Ai_=>(∀ t,T t->U64 t)->Sp s.x.spent->U64 x.round) ?_ λx hx=>bt (P:=Q) (λ_=>h) λ_=>⟨h.po,h.pl,h.bo,h.k,C.na ht ⟨(by decide :(0:Int)<=2),(by decide :(2:Int)<=255)⟩ h.n,h.se,λu q=>Sp.set (h.sp u q) (x:=⟨x.round,x.count+1⟩) (hx u (h.sp u q)) _⟩;exact bt (P:=λx:Ai_=>(∀ t,T t->U64 t)->Sp s.x.spent->U64 x.round) (λ_ u _=>round_u (u _ ht)) λ_ _ q=>q.all _
def GnW(T:Int->Prop)(W:Mail->Prop)(K:I_->Prop)(M:B8_->Prop)(s0:D_)(r:D_×List H1_×Int×Int):Prop:=Kw T K M s0 r.1/\∀ g∈r.2.1,W g.Ah_
section
variable{m:Mail}{tick:Int}{r:List Bs×List Bs×Int}
theorem send1_w{gone:List H1_}(ht:T tick)(hm:W m)(hs:Kw T K M s0 s)(hg:∀ g∈gone,W g.Ah_):∀ (t:List Bs) (n:Int) (x:D_),Kw T K M s0 x->GnW T W K M s0 (Ce_ s m tick r gone t n x)
 |[],n,x,hx=>⟨hx,hg⟩
 |q::t,n,x,hx=>by
   unfold Ce_ lt
   have h0:∀ e,GnW T W K M s0 (s,[],0,e):=λe=>⟨hs,(λ_ h=>by cases h)⟩
   refine lp1E (P:=GnW T W K M s0) (Kw T K M s0) ?_ λy hy=>?_
   . refine bt (P:=LoP _ _) (λ_=>?_) λ_=>hx
     exact bt (P:=LoP _ _) (λ_=>h0 _) λ_=>Kw.spend C hx ht
   . exact bt (P:=GnW T W K M s0) (λ_=>h0 _) λ_=>send1_w ht hm hs hg t _ _ (hy.E_ (C.ks (C.wr hm) hy.k))
theorem send0_w(ht:T tick)(hm:W m)(hs:Kw T K M s0 s)(h0:0<=m.hops):∀ (t:List Bs) (gone:List H1_) (n:Int) (x:D_),(∀ g∈gone,W g.Ah_)->StOk x->Kw T K M s0 x->GnW T W K M s0 (A1_ s m tick r t gone n x)
 |[],gone,n,x,hg,_,hx=>by
   unfold A1_
   exact send1_w C ht hm hs hg _ _ _ hx
 |q::t,gone,n,x,hg,ho,hx=>by
   unfold A1_ lt
   refine bt (P:=GnW T W K M s0) (λ_=>send0_w ht hm hs h0 t _ _ x hg ho hx) λ_=>?_
   have hw:=C.wd (t:=tick) (l:=(Av_ x.x.E_ q).1.life) hm
   generalize K4_ m.due tick (Av_ x.x.E_ q).1.life=due at hw ⊢
   have hp:=(kput_ok (s:=x.x.E_) (n:=q) (m:=⟨0,m.Bm_,m.key,m.head,m.body,due,m.hops⟩) ho.stk h0).1
   have hk:=C.kp (n:=q) (m:=⟨0,m.Bm_,m.key,m.head,m.body,due,m.hops⟩) ho.stk hw hx.k
   refine bt (P:=GnW T W K M s0) (λ_=>⟨hs,(λ_ h=>by cases h)⟩) λ_=>?_
   refine bt (P:=GnW T W K M s0) (λ_=>send0_w ht hm hs h0 t _ _ _ (λg q=>?_) (Cl_ ho hp) (hx.E_ hk.1)) λ_=>send0_w ht hm hs h0 t _ _ _ hg (Cl_ ho hp) (hx.E_ hk.1)
   rcases List.mem_append.1 q with q|q
   . exact hg g q
   . rw[List.mem_singleton.1 q];exact hk.2
theorem send_w(ht:T tick)(ho:StOk s)(hs:Kw T K M s0 s)(hm:W m)(h0:0<=m.hops):GnW T W K M s0 (An_ s m tick):=by
 unfold An_ lt;exact bt (P:=GnW T W K M s0) (λ_=>⟨hs,(λ_ h=>by cases h)⟩) λ_=>send0_w C ht hm hs h0 _ _ _ _ (λ_ h=>by cases h) ho hs
end
theorem bury_w0{tick:Int}(ht:T tick):∀ (f:Nat) (gone:List H1_) (lost:Int) (x:D_),Vh_ gone lost x->wtk x.x.E_+wto gone<f->(∀ g∈gone,W g.Ah_)->Kw T K M s0 x->Kw T K M s0 (Cy_ tick f gone lost x).1
 |0,_,_,_,_,h,_,_=>by omega
 |f+1,gone,lost,x,hI,hf,hg,hx=>by
   unfold Cy_ lt
   let Q:D_×Int->Prop:=λr=>Kw T K M s0 r.1
   refine bt (P:=Q) (λe=>?_) λ_=>hx
   have hn:0<gone.length:=by simpa using e
   have hd:∀ g∈gone.drop 1,W g.Ah_:=λg q=>hg g (AX q)
   refine bt (P:=Q) (λ_=>bury_w0 ht f _ _ _ (Ub_ hI hn) (Wd_ hn hf) hd hx) λ_=>?_
   have hm:MlOk (gt gone 0).Ah_:=hI.2.1 _ (I2_ hn)
   refine bt (P:=Q) (λ_=>?_) λe4=>?_
   . have h:=Lg_ (s:=x) (t:=tick) (k:=1) (x:=(gt gone 0).queue) hI.1
     exact bury_w0 ht f _ _ _ (Uc_ hI h.1 h.2 hn) (Zg_ h.2 hn hf) hd (Kw.note C hx ht qF)
   . simp only[AO,decide_eq_false_iff_not,AN,decide_eq_true_eq] at e4
     have hs:=Ma_ (s:=x) (m:=⟨(K_ (gt gone 0).Ah_).id,(Av_ x.x.E_ (gt gone 0).queue).1.dead,(K_ (gt gone 0).Ah_).key,(K_ (gt gone 0).Ah_).head,(K_ (gt gone 0).Ah_).body,0,A0 .u8 ((K_ (gt gone 0).Ah_).hops+1)⟩) (tick:=tick) hI.1 Lk_
     have hw:=send_w C (tick:=tick) ht hI.1 hx (C.wb (m:=K_ (gt gone 0).Ah_) (s:=(Av_ x.x.E_ (gt gone 0).queue).1.dead) (hg _ (I2_ hn))) Lk_
     refine bury_w0 ht f _ _ _ (Ud_ hI hs.1 hs.2.1 hn Z hm e4.1 hs.2.2 Z e4.2) (We_ hn hf Z hm e4.1 hs.2.2 Z e4.2) (λg q=>?_) hw.1
     rcases List.mem_append.1 (AX q) with q|q
     . exact hg g q
     . exact hw.2 g q
theorem bury_v{gone:List H1_}{tick:Int}(ht:T tick)(h:StOk s)(hg:gone.length<=600/\∀ g∈gone,MlOk g.Ah_)(hw:∀ g∈gone,W g.Ah_)(hs:Kw T K M s0 s):Kw T K M s0 (Cx_ s gone tick).1:=
 bury_w0 C ht _ gone 0 s (buryI0 h hg) (CI _) hw hs
section
variable{d:G_}
theorem settle_w(ht:T d.tick)(h:StOk s)(hs:Kw T K M s0 s):Kw T K M s0 (Ez_ s d).1:=by
 unfold Ez_ lt;let Q:D_×Aq_×Int->Prop:=λr=>Kw T K M s0 r.1;refine bt (P:=Q) (λ_=>hs) λ_=>bt (P:=Q) (λ_=>hs.E_ (C.kb hs.k)) λ_=>have hr:=Kl_ (n:=d.name) (id:=d.id) h.stk;have hk:=C.kr (n:=d.name) (i:=d.id) hs.k;bt (P:=Q) (λ_=>bury_v C ht (Cl_ h hr.1) ⟨by simp,λg hg=>?_⟩ (λg hg=>?_) (hs.E_ hk.1)) λ_=>hs.E_ hk.1;exact tA;rw[List.mem_singleton.1 hg];exact hk.2
theorem late_w0{t:Int}(ht:T t):∀ (f:Nat) (gone:List H1_) (x:D_),StOk x->(∀ g∈gone,MlOk g.Ah_)->(∀ g∈gone,W g.Ah_)->gone.length+nik x.x.E_<=512->nik x.x.E_<f->Kw T K M s0 x->Kw T K M s0 (Dr_ t f gone x).1
 |0,_,_,_,_,_,_,h,_=>by omega
 |f+1,gone,x,h,hg,hw,hl,hf,hs=>by
   unfold Dr_ lt
   let Q:D_×Aq_->Prop:=λr=>Kw T K M s0 r.1
   refine bt (P:=Q) (λ_=>bury_v C ht h ⟨by omega,hg⟩ hw hs) λe=>?_
   have e':(Bf_ x.x.E_ t).2.2=true:=by simpa using e
   have hr:=Kl_ (n:=(Bf_ x.x.E_ t).1) (id:=(Bf_ x.x.E_ t).2.1.id) h.stk
   refine late_w0 ht f _ _ (Cl_ h hr.1) (λg q=>?_) (λg q=>?_) (late_in h.stk Z e' Z hl) (late_mu h.stk Z e' Z hf) (hs.E_ (C.kr hs.k).1)
   . rcases List.mem_append.1 q with q|q
     . exact hg g q
     . exact tB
   . rcases List.mem_append.1 q with q|q
     . exact hw g q
     . rw[List.mem_singleton.1 q];exact C.kt hs.k
theorem late_w{t:Int}(ht:T t)(h:StOk s)(hs:Kw T K M s0 s):Kw T K M s0 (Gf_ s t).1:=
 late_w0 C ht _ [] s h (λ_ h=>by cases h) (λ_ h=>by cases h) oL (CI _) hs
theorem put_w(ht:T d.tick)(h:StOk s)(h0:0<=d.Ah_.hops)(hm:W d.Ah_)(hs:Kw T K M s0 s):Kw T K M s0 (F8_ s d).1:=by
 unfold F8_ lt;let Q:D_×Aq_×Int->Prop:=λr=>Kw T K M s0 r.1;have h1:=Ma_ (s:=s) (m:=K_ d.Ah_) (tick:=d.tick) h h0;have hl:=Mr_ (s:=s) (m:=K_ d.Ah_) (tick:=d.tick) h;have hw:=send_w C (m:=K_ d.Ah_) (tick:=d.tick) ht h hs hm h0;exact bt (P:=Q) (λ_=>hs) λ_=>bury_v C ht h1.1 ⟨by omega,h1.2.1⟩ hw.2 hw.1
theorem lend_w(hs:Kw T K M s0 s):Kw T K M s0 (Fa_ s d).1:=by
 unfold Fa_ lt;let Q:D_×Aq_×Int->Prop:=λr=>Kw T K M s0 r.1;exact bt (P:=Q) (λ_=>hs) λ_=>bt (P:=Q) (λ_=>hs) λ_=>hs.E_ (C.kl hs.k)
theorem pull_w(ht:T d.tick)(h:StOk s)(hm:W d.Ah_)(hs:Kw T K M s s):Kw T K M s (Fb_ s d).1\/Kw T K M (seenW s d) (Fb_ s d).1:=by
 unfold Fb_ lt;let Q:D_×Aq_×Int->Prop:=λr=>Kw T K M s r.1\/Kw T K M (seenW s d) r.1;refine bt (P:=Q) (λ_=> .inl hs) λ_=>bt (P:=Q) (λ_=> .inl hs) λ_=>bt (P:=Q) (λ_=> .inl hs) λ_=>?_;let I:D_->Prop:=λx=>StOk x/\Kw T K M (seenW s d) x;have h2:Kw T K M (seenW s d) (⟨(⟨s.x.book,s.x.E_,s.x.notes,(A16.set s.x.seen d.number ((d.frm).toNat)),s.x.spent⟩:Ab_),s.U_,s.place⟩:D_):=⟨rfl,rfl,rfl,hs.k,hs.n,rfl,λ_=>id⟩;refine lt1E (P:=Q) I ?_ λx hx=>?_;exact bt (P:=I) (λ_=>⟨(Lg_ (Ea_ h)).1,Kw.note C h2 ht qF⟩) λ_=>⟨Ea_ h,h2⟩;exact bt (P:=Q) (λ_=> .inr (Kw.note C hx.2 ht qF)) λ_=>have h1:=Ma_ (s:=x) (m:=⟨(K_ d.Ah_).id,(K_ d.Ah_).Bm_,(K_ d.Ah_).key,(K_ d.Ah_).head,(K_ d.Ah_).body,(K_ d.Ah_).due,A0 .u8 ((K_ d.Ah_).hops+1)⟩) (tick:=d.tick) hx.1 Lk_;have hl:=Mr_ (s:=x) (m:=⟨(K_ d.Ah_).id,(K_ d.Ah_).Bm_,(K_ d.Ah_).key,(K_ d.Ah_).head,(K_ d.Ah_).body,(K_ d.Ah_).due,A0 .u8 ((K_ d.Ah_).hops+1)⟩) (tick:=d.tick) hx.1;have hw:=send_w C (tick:=d.tick) ht hx.1 hx.2 (C.wp (m:=K_ d.Ah_) hm) Lk_;.inr (bury_v C ht h1.1 ⟨by omega,h1.2.1⟩ hw.2 hw.1)
theorem do_w(ht:T d.tick)(hc:0<=d.code/\d.code<=255)(h:StOk s)(h0:0<=d.Ah_.hops)(hm:W d.Ah_)(hs:Kw T K M s s):(H_ s d).1=s\/(Kw T K M s (H_ s d).1\/Kw T K M (seenW s d) (H_ s d).1)\/(H_ s d).1=(Bh_ s d).1\/(H_ s d).1=(Bc_ s d).1:=by
 unfold H_ lt;let Q:D_×Aq_×Int->Prop:=λr=>r.1=s\/(Kw T K M s r.1\/Kw T K M (seenW s d) r.1)\/r.1=(Bh_ s d).1\/r.1=(Bc_ s d).1;refine bt (P:=Q) (λe=> .inl Z) λ_=>?_;let I:Int×D_×Aq_->Prop:=λr=>(Kw T K M s r.2.1\/Kw T K M (seenW s d) r.2.1)\/r.2.1=(Bh_ s d).1\/r.2.1=(Bc_ s d).1;refine lt3E (P:=Q) I ?_ λa b c hb=>bt (P:=Q) (λe=> .inl Z) λe=> .inr hb;refine lt1E (P:=I) (λv:Bool=>True) U λv hv=>bt (P:=I) (λe=> .inr (.inl Z)) λ_=>bt (P:=I) (λe=> .inl (.inl (put_w C ht h h0 hm hs))) λ_=>bt (P:=I) (λe=> .inl (.inl (lend_w C hs))) λ_=>bt (P:=I) (λe=> .inl (.inl (settle_w C ht h hs))) λ_=>bt (P:=I) (λe=> .inl (.inl (late_w C ht h hs))) λ_=>bt (P:=I) (λe=> .inl (pull_w C ht h hm hs)) λ_=>bt (P:=I) (λ_=> .inl (.inl (Kw.note C (s:=⟨⟨s.x.book,Fx_ s.x.E_,s.x.notes,s.x.seen,s.x.spent⟩,s.U_,s.place⟩) (hs.E_ (C.kw h.stk hs.k)) ht qF))) λ_=>bt (P:=I) (λ_=> .inl (.inl ⟨rfl,rfl,rfl,hs.k,C.na ht hc hs.n,rfl,λ_=>id⟩)) λ_=> .inr (.inr Z)
end
end
def ShB(s:D_)(d:G_)(b:A3_):Prop:=b=s.x.book\/b=(C0_ s.x.book d.Bm_).1\/b=(Ft_ s.x.book d.name).1\/b=(Er_ s.x.book d.bind).1\/b=(Bv_ s.x.book d.bind).1
theorem shops_x(s:D_)(d:G_):∃ b,(Bc_ s d).1=⟨⟨b,s.x.E_,s.x.notes,s.x.seen,s.x.spent⟩,s.U_,s.place⟩/\ShB s d b:=by
 unfold Bc_ lt;let Q:D_×Int->Prop:=λr=>∃ b,r.1=⟨⟨b,s.x.E_,s.x.notes,s.x.seen,s.x.spent⟩,s.U_,s.place⟩/\ShB s d b;have hn:∀ {e},Q (s,e):=⟨_,rfl, .inl Z⟩;refine bt (P:=Q) (λ_=>?_) λ_=>?_;refine lp0E (P:=Q) (λ_=>True) ?_ λ_=>⟨_,rfl, .inr (.inl Z)⟩;refine bt (P:=LoP _ _) (λ_=>?_) λ_=>trivial;exact xM;refine bt (P:=Q) (λ_=>⟨_,rfl, .inr (.inr (.inl Z))⟩) λ_=>bt (P:=Q) (λ_=>⟨_,rfl, .inr (.inr (.inr (.inl Z)))⟩) λ_=>lp0E (P:=Q) (λ_=>True) ?_ λ_=>⟨_,rfl, .inr (.inr (.inr (.inr Z)))⟩;exact lt1E (P:=LoP _ _) (λ_=>True) U λv _=>xM
theorem V7_(s:D_)(d:G_):∃ b k,(Bh_ s d).1=⟨⟨b,k,s.x.notes,s.x.seen,s.x.spent⟩,s.U_,s.place⟩/\(k=(Bb_ s.x.E_ d.queue).1\/k=(Bz_ s.x.E_ d.name).1)/\(b=s.x.book\/b=D1_ s.x.book d.name):=by
 unfold Bh_ lt;let Q:D_×Int->Prop:=λr=>∃ b k,r.1=⟨⟨b,k,s.x.notes,s.x.seen,s.x.spent⟩,s.U_,s.place⟩/\(k=(Bb_ s.x.E_ d.queue).1\/k=(Bz_ s.x.E_ d.name).1)/\(b=s.x.book\/b=D1_ s.x.book d.name);exact bt (P:=Q) (λ_=>⟨_,_,rfl, .inl Z, .inl Z⟩) λ_=>bt (P:=Q) (λ_=>⟨_,_,rfl, .inr Z, .inr Z⟩) λ_=>⟨_,_,rfl, .inr Z, .inl Z⟩
theorem cloBw:Clw (λ_=>True) (λ_=>True) RoB NoB where
 kp:=λhs _ h=>⟨cloB.kp hs h,trivial⟩
 kl:=cloB.kl
 kr:=λh=>⟨cloB.kr h,trivial⟩
 kb:=cloB.kb
 ks:=λ_ h=>cloB.ks h
 kw:=cloB.kw
 kt:=λ_=>trivial
 na:=λ_ hk h=>cloB.na hk h
 wd:=λh=>h
 wr:=λh=>h
 wb:=λ_=>trivial
 wp:=λ_=>trivial
theorem doB{s:D_}{d:G_}(hc:0<=d.code/\d.code<=255)(h:StOk s)(h0:0<=d.Ah_.hops)(hq:0<=d.Bm_.sort)(hw:∀ p∈d.bind.want,p.wf)(hs:StB s):StB (H_ s d).1:=by
 have⟨h1,h2,h3⟩:=hs;have key:∀ s0 t:D_,s0.x.book=s.x.book->Kw (λ_=>True) RoB NoB s0 t->StB t:=λs0 t e k=>⟨by rw[k.bo,e];exact h1,k.k,k.n⟩
 rcases do_w cloBw trivial hc h h0 trivial (⟨rfl,rfl,rfl,h2,h3,rfl,λ_=>id⟩:Kw (λ_=>True) RoB NoB s s) with e|(e|e)|e|e
 rw[e];exact⟨h1,h2,h3⟩;exact key _ _ Z e;exact key (seenW s d) _ Z e;have⟨b,k,e2,e3,e4⟩:=V7_ s d;rw[e,e2];refine⟨?_,?_,h3⟩
 . show BkB b
   rcases e4 with rfl|rfl
   exact h1
   exact cloB.fg h1
 . show RoB k
   rcases e3 with rfl|rfl
   exact cloB.km h2
   exact cloB.kd h2
 . have⟨b,e2,e3⟩:=shops_x s d
   rw[e,e2]
   refine⟨?_,h2,h3⟩
   show BkB b
   rcases e3 with rfl|rfl|rfl|rfl|rfl
   exact h1
   exact cloB.ma hq h1
   exact cloB.dp h1
   exact cloB.ub h1
   exact cloB.bd hw h1
theorem doPl{s:D_}{d:G_}(hc:0<=d.code/\d.code<=255)(h:StOk s)(h0:0<=d.Ah_.hops)(hs:StB s):(H_ s d).1.U_=s.U_/\(H_ s d).1.place=s.place:=by
 have⟨h1,h2,h3⟩:=hs
 rcases do_w cloBw trivial hc h h0 trivial (⟨rfl,rfl,rfl,h2,h3,rfl,λ_=>id⟩:Kw (λ_=>True) RoB NoB s s) with e|(e|e)|e|e
 rw[e];exact⟨rfl,rfl⟩;exact⟨e.po,e.pl⟩;exact⟨e.po,e.pl⟩;have⟨b,k,e2,e3,e4⟩:=V7_ s d;rw[e,e2];exact⟨rfl,rfl⟩;have⟨b,e2,e3⟩:=shops_x s d;rw[e,e2];exact⟨rfl,rfl⟩
def DkI(d:Bi_):Prop:=d.on=true/\d.armed=false/\0<=d.D8_/\d.lasts.length=7680/\DwOk d
theorem blk60{l:C5_}(h:l.d.lasts.length=7680):T_ l=60:=by
 unfold T_ Bk_ lt;rw[h];decide
theorem dwrite_i{d:Bi_}(h:DkI d){at_:Int}(h0:0<=at_)(h1:at_<120){s:Bs}(hs:s.length<=64):(Ap_ d at_ s).1=0/\DkI (Ap_ d at_ s).2:=by
 have hc:=Vv_ (d:=d) (at_:=at_) h.1 h0 oM;have hn:¬(64:Int)<(s.length:Int):=by omega
 have ho:=Sy_ h.2.2.2.2 at_ s;unfold Ap_ lt at ho ⊢;simp only[hc,hn,decide_true,decide_false,A2,cond_false] at ho ⊢;exact⟨trivial,h.1,h.2.1,h.2.2.1,h.2.2.2.1,ho⟩
theorem dsync_i{d:Bi_}(h:DkI d):(C1_ d).1=0/\DkI (C1_ d).2/\(C1_ d).2.waits=[]:=by
 have⟨h1,h2,h3,h4,h5⟩:=h;have hf:=dsync_f h5 h3;unfold C1_ lt at hf ⊢;simp only[h1,h2,A2,BH,cond_false] at hf ⊢;have h':DwOk (⟨d.lasts,d.waits,d.on,d.armed,(max 0 (d.D8_-1)),d.cut⟩:Bi_):=h5;have :=ddo_f h' (Hm_ (⟨d.lasts,d.waits,d.on,d.armed,(max 0 (d.D8_-1)),d.cut⟩:Bi_));simp only[h1,h2] at this;refine⟨trivial,⟨this.2.2.1,this.2.2.2.1,hf.2.2.2.1,?_,hf.2.1⟩,this.2.1⟩;rw[hf.1];exact h4
theorem put_l0_i(l:C5_)(A4_ block least:Int)(s:Bs)(ha:A4_=0\/A4_=1)(hb:0<=block)(hm:block+(max least ((((s.length:Int)+64)-1)/64))<=60):∀ (f v:Nat) (dk:Bi_),((max least ((((s.length:Int)+64)-1)/64))-(v:Int)).toNat<f->DkI dk->∃ dk',F5_ l A4_ block least s f v dk=(0,(⟨dk',l.A4_,l.gen,l.ready,l.broken,l.done,l.waits⟩:C5_))/\DkI dk'/\dk'.waits=[]
 |0,_,_,h,_=>by omega
 |f+1,v,dk,h,hd=>by
   rw[F5_.eq_2]
   unfold lt
   by_cases hc:(v:Int)<(max least ((((s.length:Int)+64)-1)/64))
   . simp only[hc,decide_true,cond_true]
     have e60:=blk60 (l:=(⟨dk,l.A4_,l.gen,l.ready,l.broken,l.done,l.waits⟩:C5_)) hd.2.2.2.1
     rw[e60]
     generalize hY:((s++(AY [0] ((((max least ((((s.length:Int)+64)-1)/64))*64)-(s.length:Int))).toNat)).drop (v*64)).take (((v+1)*64)-(v*64))=Y
     have hl:Y.length<=64:=by rw[<- hY,B5];omega
     have hw:=dwrite_i hd (at_:=((A4_*60)+block)+(v:Int)) (by rcases ha with rfl|rfl<;>omega) (by rcases ha with rfl|rfl<;>omega) hl
     simp only[hw.1,decide_true,A2,cond_false]
     exact put_l0_i l A4_ block least s ha hb hm f (v+1) _ qD hw.2
   . simp only[hc,decide_false,cond_false]
     have hs:=dsync_i hd
     simp only[hs.1,decide_true,A2,cond_false]
     exact⟨_,rfl,hs.2.1,hs.2.2⟩
theorem put_i{l:C5_}{A4_ block least:Int}{s:Bs}(ha:A4_=0\/A4_=1)(hb:0<=block)(hm:block+(max least ((((s.length:Int)+64)-1)/64))<=60)(hd:DkI l.d):∃ dk',A2_ l A4_ block least s=(0,(⟨dk',l.A4_,l.gen,l.ready,l.broken,l.done,l.waits⟩:C5_))/\DkI dk'/\dk'.waits=[]:=
 put_l0_i l A4_ block least s ha hb hm _ 0 l.d qI hd
theorem row60{l:C5_}(h:l.d.lasts.length=7680):Ga_ l=3776:=by
 have :=(lrow_f l).1;rw[blk60 h] at this;rw[this];decide
theorem three_i{l:C5_}{a:Int}{s:Bs}(hd:DkI l.d)(ha:a=0\/a=1)(hs:s.length<=3776)(g:Int):∃ d1 d2 d3,A2_ l a 0 1 []=(0,(⟨d1,l.A4_,l.gen,l.ready,l.broken,l.done,l.waits⟩:C5_))/\DkI d1/\A2_ (⟨d1,l.A4_,l.gen,l.ready,l.broken,l.done,l.waits⟩:C5_) a 1 ((T_ (⟨d1,l.A4_,l.gen,l.ready,l.broken,l.done,l.waits⟩:C5_))-1) s=(0,(⟨d2,l.A4_,l.gen,l.ready,l.broken,l.done,l.waits⟩:C5_))/\DkI d2/\A2_ (⟨d2,l.A4_,l.gen,l.ready,l.broken,l.done,l.waits⟩:C5_) a 0 1 (C3_ g)=(0,(⟨d3,l.A4_,l.gen,l.ready,l.broken,l.done,l.waits⟩:C5_))/\DkI d3/\d3.waits=[]:=by
 have⟨d1,e1,h1,_⟩:=put_i (l:=l) (A4_:=a) (block:=0) (least:=1) (s:=[]) ha qD (by simp only[A6];omega) hd;have hb:=blk60 (l:=(⟨d1,l.A4_,l.gen,l.ready,l.broken,l.done,l.waits⟩:C5_)) h1.2.2.2.1;have⟨d2,e2,h2,_⟩:=put_i (l:=(⟨d1,l.A4_,l.gen,l.ready,l.broken,l.done,l.waits⟩:C5_)) (A4_:=a) (block:=1) (least:=(T_ (⟨d1,l.A4_,l.gen,l.ready,l.broken,l.done,l.waits⟩:C5_))-1) (s:=s) ha qD (by rw[hb];omega) h1;have hh:=Mj_ g;have⟨d3,e3,h3,w3⟩:=put_i (l:=(⟨d2,l.A4_,l.gen,l.ready,l.broken,l.done,l.waits⟩:C5_)) (A4_:=a) (block:=0) (least:=1) (s:=C3_ g) ha qD (by rw[hh];omega) h2;exact⟨d1,d2,d3,e1,h1,e2,h2,e3,h3,w3⟩
theorem begin_i{l:C5_}(image:Bs)(hd:DkI l.d)(hb:l.broken=false)(hg:0<=l.gen/\l.gen<1000):((Eg_ l image).2=l/\((Eg_ l image).1=17/\3776<(B3_ [image]).1.length\/(B3_ [image]).2≠0/\(Eg_ l image).1=(B3_ [image]).2))\/∃ d' a,Eg_ l image=(0,(⟨d',a,l.gen+1,true,false,(B3_ [image]).1,[]⟩:C5_))/\DkI d'/\d'.waits=[]/\(a=0\/a=1)/\(B3_ [image]).1.length<=3776:=by
 have hw:A0 .u64 (l.gen+1)=l.gen+1:=by rw[DM];omega
 unfold Eg_ lt;rw[hb];simp only[cond_false];by_cases h1:(B3_ [image]).2=0;simp only[h1,decide_true,A2,cond_false];rw[row60 hd.2.2.2.1];by_cases h2:(3776:Int)<((B3_ [image]).1.length:Int);left;simp only[h2,decide_true,cond_true];exact⟨trivial, .inl ⟨trivial,by omega⟩⟩;have h3:¬l.gen=18446744073709551615:=by omega
 simp only[h2,h3,decide_false,cond_false];right;have hs:(B3_ [image]).1.length<=3776:=by omega
 by_cases h4:l.A4_=0;simp only[h4,decide_true,cond_true];have⟨d1,d2,d3,e1,g1,e2,g2,e3,g3,w3⟩:=three_i (l:=l) (a:=1) (s:=(B3_ [image]).1) hd (.inr Z) hs (A0 .u64 (l.gen+1));rw[h4,hb] at e1 e2 e3;simp only[e1,e2,e3,decide_true,A2,cond_false];rw[hw];exact⟨d3,1,rfl,g3,w3, .inr Z,hs⟩;simp only[h4,decide_false,cond_false];have⟨d1,d2,d3,e1,g1,e2,g2,e3,g3,w3⟩:=three_i (l:=l) (a:=0) (s:=(B3_ [image]).1) hd (.inl Z) hs (A0 .u64 (l.gen+1));rw[hb] at e1 e2 e3;simp only[e1,e2,e3,decide_true,A2,cond_false];rw[hw];exact⟨d3,0,rfl,g3,w3, .inl Z,hs⟩;left;simp only[h1,decide_false,AE,cond_true];refine⟨trivial, .inr ⟨?_,?_⟩⟩<;>first|trivial|exact h1|(intro e;exact h1 e)
def B1_(l:C5_)(records:List Bs):Int×C5_:=
 lt (F9_ l) λr=>
 (bif !decide (r=0) then
 (r,l)
 else lt (B3_ records) λr1=>
 (bif !decide (r1.2=0) then
 (r1.2,l)
 else lt (Hz_ l) λr2=>
 (bif decide (r2<(r1.1.length:Int)) then
 (17,l)
 else (0,(⟨l.d,l.A4_,l.gen,l.ready,l.broken,l.done,(l.waits++r1.1)⟩:C5_)))))
theorem append_f(l:C5_)(rs:List Bs):(B1_ l rs).2.d=l.d/\(B1_ l rs).2.A4_=l.A4_/\(B1_ l rs).2.gen=l.gen/\(B1_ l rs).2.ready=l.ready/\(B1_ l rs).2.broken=l.broken/\(B1_ l rs).2.done=l.done/\((B1_ l rs).1≠0->(B1_ l rs).2=l)/\((B1_ l rs).2.waits.length:Int)<=max (l.waits.length:Int) (Ga_ l):=by
 unfold B1_ lt;by_cases h1:F9_ l=0;by_cases h2:(B3_ rs).2=0;by_cases h3:Hz_ l<((B3_ rs).1.length:Int);simp only[h1,h2,h3,decide_true,A2,cond_false,cond_true];refine⟨?_,?_,?_,?_,?_,?_,?_,?_⟩<;>first|trivial|(intro _;trivial)|omega
 . simp only[h1,h2,h3,decide_true,decide_false,A2,cond_false]
   have :=room_f l
   refine⟨?_,?_,?_,?_,?_,?_,?_,?_⟩<;>first|trivial|(intro h;exact (h Z).elim)|(intro h;exact absurd U h)|(intro h;simp at h;done)|(simp only[A1];omega)
 simp only[h1,h2,decide_true,decide_false,A2,AE,cond_false,cond_true];refine⟨?_,?_,?_,?_,?_,?_,?_,?_⟩<;>first|trivial|(intro _;trivial)|omega
 simp only[h1,decide_false,AE,cond_true];refine⟨?_,?_,?_,?_,?_,?_,?_,?_⟩<;>first|trivial|(intro _;trivial)|omega
end Go.SW.V
namespace Go.SW
end Go.SW
namespace Go.SW.V
open Go.SW
end Go.SW.V
namespace Go.SW
def GPow(H:Hp)(g:Nat):Prop:=∃ T fr,H g=some (.cells (Go.Lib.pow10Tab.map (Value.int .u64)).toArray T fr)
theorem GPow.mono{H H':Hp}{g:Nat}(h:GPow H g)(hl:HLe H H'):GPow H' g:=by
 have⟨T,fr,e⟩:=h;exact⟨T,fr,hl _ _ e⟩
open Go.RowKit
variable{P:Program}
end Go.SW
namespace Go.SW.V
open Go.SW
def Oj_(x:Z_)(y:Z_):Bool:=
 (((decide (x.Ah_=y.Ah_))&&(x.Zv_==y.Zv_))&&(x.again==y.again))
def J8_(s2:List Q_):List Q_->Nat->Bool
 |[],k=>true
 | x::t,k=>(bif !(decide (x=(gt s2 k))) then
 false
 else J8_ s2 t (k+1))
def Qs_(s1:List Q_)(s2:List Q_):Bool:=
 (bif !decide ((s1.length:Int)=(s2.length:Int)) then
 false
 else J8_ s2 s1 0)
def J9_(s2:List Z_):List Z_->Nat->Bool
 |[],k=>true
 | x::t,k=>(bif !(Oj_ x (gt s2 k)) then
 false
 else J9_ s2 t (k+1))
def Sz_(s1:List Z_)(s2:List Z_):Bool:=
 (bif !decide ((s1.length:Int)=(s2.length:Int)) then
 false
 else J9_ s2 s1 0)
def Ka_(s2:List Mail):List Mail->Nat->Bool
 |[],k=>true
 | x::t,k=>(bif !(decide (x=(gt s2 k))) then
 false
 else Ka_ s2 t (k+1))
def S0_(s1:List Mail)(s2:List Mail):Bool:=
 (bif !decide ((s1.length:Int)=(s2.length:Int)) then
 false
 else Ka_ s2 s1 0)
def Th_(a:Ax_)(b:Ax_):Bool:=
 (Sz_ a.items b.items)
def Na_(a:Al_)(b:Al_):Bool:=
 ((decide (a.total=b.total))&&(S0_ a.kept b.kept))
def Q2_(a:B8_)(b:B8_):Bool:=
 ((decide (a.total=b.total))&&(decide (a.kept=b.kept)))
def Jm_(a:A3_)(b:A3_):Bool:=
 ((decide (a.Bs_=b.Bs_))&&(Qs_ a.binds b.binds))
def Nf_(x:Go_)(y:Go_):Bool:=
 ((decide (x.q=y.q))&&(Th_ x.l y.l))
def K9_(s2:List Go_):List Go_->Nat->Bool
 |[],k=>true
 | x::t,k=>(bif !(Nf_ x (gt s2 k)) then
 false
 else K9_ s2 t (k+1))
def Wq_(s1:List Go_)(s2:List Go_):Bool:=
 (bif !decide ((s1.length:Int)=(s2.length:Int)) then
 false
 else K9_ s2 s1 0)
def Jn_(a:I_)(b:I_):Nat->Nat->Bool
 |0,_=>default
 | f2+1,v=>(bif decide ((v:Int)<16) then
 (bif !(Na_ (A16.get a.rises v) (A16.get b.rises v)) then
 false
 else Jn_ a b f2 (v+1))
 else true)
def Os_(a:I_)(b:I_):Bool:=
 (bif (((!decide (a.next = b.next))||(!decide (a.bytes=b.bytes)))||(!(Wq_ a.rows b.rows))) then
 false
 else Jn_ a b (16-0+1) 0)
def Ot_(a:Ab_)(b:Ab_):Bool:=
 (((((Jm_ a.book b.book)&&(Os_ a.E_ b.E_))&&(Q2_ a.notes b.notes))&&(decide (a.seen=b.seen)))&&(decide (a.spent=b.spent)))
def G7_(b:A3_):(List W_):=
 b.Bs_
def E5_:List Q_->List Q_->(List Q_)
 |[],out=>out
 |x::t,out=>E5_ t (out++[x])
def E9_(b:A3_):(List Q_):=
 E5_ b.binds []
theorem binds_eq0:∀ (l out:List Q_),E5_ l out=out++l
 |[],out=>by simp[E5_]
 |x::t,out=>by unfold E5_;rw[binds_eq0 t];simp
theorem binds_eq(b:A3_):E9_ b=b.binds:=by unfold E9_;rw[binds_eq0];rfl
theorem shops_eq(b:A3_):G7_ b=b.Bs_:=rfl
theorem headE_len{h:List Pair}(e:H2_ h=0):h.length<=8:=by
 unfold H2_ at e
 split at e
 . cases e
 omega
theorem bk_want{b:A3_}(h:BkOk b)(k:BkB b):b.binds.length<=1000/\∀ y∈b.binds,y.want.length<=1000:=
 ⟨by have :=h.2.1;omega,λy hy=>by have :=headE_len (k.2 y hy).2.2.2.1;omega⟩
def Xl_:Bool:=
 (Tc_)
variable{r r':Bs}
def bitM(y:Bool):Nat:=if y then 1 else 0
def Rh_(s:W_):Bs:=txtB s.name++(numB 1 s.sort.toNat++txtB s.to')
def Mi_(y:Q_):Bs:=txtB y.Bm_++(txtB y.to'++(numB 1 (bitM y.up)++(txtB y.key++(Bt_ y.want++numB 1 (bitM y.all)))))
def Rc_(n:Eb_):Bs:=numB 8 n.tick.toNat++(numB 1 n.kind.toNat++txtB n.text)
def K8_(n:B8_):Bs:=numB 8 n.total.toNat++(numB 1 n.kept.length++n.kept.flatMap Rc_)
def bookB(b:A3_):Bs:=numB 1 b.Bs_.length++(b.Bs_.flatMap Rh_++(numB 1 b.binds.length++b.binds.flatMap Mi_))
def G1_(yes:Bool):Int:=
 (bif yes then
 1
 else 0)
def Ee_(x:Z_):Int:=
 (bif x.Zv_ then
 (bif x.again then
 (A0 .u64 (1+2))
 else 1)
 else (bif x.again then
 (A0 .u64 (0+2))
 else 0))
def Cz_:List Eb_->Out->Bs
 |[],x=>x.s
 |x1::t,x=>Cz_ t (J_ (C_ (C_ x (x1.tick) 8) (x1.kind) 1) (x1.text))
def Dh_(n:B8_):Bs:=
 Cz_ n.kept (C_ (C_ aE n.total 8) (n.kept.length:Int) 1)
def Cb_:List Mail->Out->Bs
 |[],x1=>x1.s
 |x2::t,x1=>Cb_ t (Af_ x1 (B0_ x2))
def Bu_(x:Al_):Bs:=
 Cb_ x.kept (C_ (C_ aE x.total 8) (x.kept.length:Int) 1)
def Is_:List Z_->Ax_->Ax_×Int
 |[],x=>(x,0)
 |x1::t,x=>lt (F7_ x x1) λr=>
 (bif !decide (r.2=0) then
 (bE,r.2)
 else Is_ t r.1)
def Us_(items:List Z_):Ax_×Int:=
 Is_ items bE
theorem O5_(i:In):MlOk (De_ i).1:=by
 unfold De_;dsimp only
 split
 . split
   . rename_i h
     by_cases hc:Hs_ ⟨(R_ i 8).1,(V_ (R_ i 8).2 16).1,(V_ (V_ (R_ i 8).2 16).2 64).1,(Br_ (V_ (V_ (R_ i 8).2 16).2 64).2).1,(V_ (Br_ (V_ (V_ (R_ i 8).2 16).2 64).2).2 256).1,(R_ (V_ (Br_ (V_ (V_ (R_ i 8).2 16).2 64).2).2 256).2 8).1,(R_ (R_ (V_ (Br_ (V_ (V_ (R_ i 8).2 16).2 64).2).2 256).2 8).2 1).1⟩=0
     exact mlOk_of hc (Ao_ _ _).1
     exact (Ls_ hc h).elim
   exact Io_
 exact Io_
theorem mls_nil:∀ y∈([]:List Z_),MlOk y.Ah_:=λ_ h=>by cases h
theorem mls_app{l:List Z_}{x:Z_}(h:∀ y∈l,MlOk y.Ah_)(hx:MlOk x.Ah_):∀ y∈l++[x],MlOk y.Ah_:=λy hy=>by
 rcases List.mem_append.1 hy with q|q
 . exact h y q
 . rw[List.mem_singleton.1 q];exact hx
theorem lof_ok0:∀ (t:List Z_) (l:Ax_),LnOk l->(∀ y∈t,MlOk y.Ah_)->LnOk (Is_ t l).1
 |[],_,h,_=>h
 |x::t,l,h,hx=>by
   unfold Is_ lt
   refine bt (P:=λr:Ax_×Int=>LnOk r.1) (λ_=>Tk_) λ_=>?_
   exact lof_ok0 t _ (lput_ok h (hx x qI).2.1) λy hy=>hx y pA
theorem lof_ok{t:List Z_}(h:∀ y∈t,MlOk y.Ah_):LnOk (Us_ t).1:=lof_ok0 t _ Tk_ h
theorem nb_len0:∀ (t:List Eb_) (x:Out),(∀ y∈t,y.text.length<=64)->(Cz_ t x).length<=x.s.length+100*t.length
 |[],x,_=>by simp[Cz_]
 |y::t,x,h=>by
   have h1:=nb_len0 t (J_ (C_ (C_ x (y.tick) 8) (y.kind) 1) (y.text)) (λz hz=>h z qX)
   have h2:=A7_ (C_ (C_ x (y.tick) 8) (y.kind) 1) y.text
   have h3:=Y_ (C_ x (y.tick) 8) (y.kind) 1
   have h4:=Y_ x (y.tick) 8
   have h5:=h y qI
   rw[Cz_]
   exact sG
theorem nb_len{n:B8_}(hn:n.kept.length<=32)(h:NoB n):(Dh_ n).length<=4000:=by
 have h1:=nb_len0 n.kept (C_ (C_ aE n.total 8) (n.kept.length:Int) 1) (λy hy=>(h y hy).1);have h2:=Y_ (C_ aE n.total 8) (n.kept.length:Int) 1;have h3:=Y_ aE n.total 8;have h4:aE.s.length=0:=rfl;unfold Dh_;omega
theorem rb_len0:∀ (t:List Mail) (x:Out),(Cb_ t x).length<=x.s.length+3000*t.length
 |[],x=>by simp[Cb_]
 |y::t,x=>by
   have h1:=rb_len0 t (Af_ x (B0_ y))
   have h2:=Eq_ x (B0_ y)
   have h3:=Gz_ y
   rw[Cb_]
   exact sG
theorem rb_len{x:Al_}(h:RiOk x):(Bu_ x).length<=50000:=by
 have h1:=rb_len0 x.kept (C_ (C_ aE x.total 8) (x.kept.length:Int) 1);have h2:=Y_ (C_ aE x.total 8) (x.kept.length:Int) 1;have h3:=Y_ aE x.total 8;have h4:aE.s.length=0:=rfl;have h5:=h.1;unfold Bu_;omega
theorem mks_app{l:List Mail}{x:Mail}(h:∀ y∈l,MlOk y)(hx:MlOk x):∀ y∈l++[x],MlOk y:=λy hy=>by
 rcases List.mem_append.1 hy with q|q
 . exact h y q
 . rw[List.mem_singleton.1 q];exact hx
theorem mks_nil:∀ y∈([]:List Mail),MlOk y:=λ_ h=>by cases h
def ImOk(x:Ab_):Prop:=BkOk x.book/\BkB x.book/\StkOk x.E_/\RoB x.E_/\x.notes.kept.length<=32/\NoB x.notes
def DdG(d:G_):Prop:=DdOk d/\0<=d.code/\d.code<=255/\0<=d.Ah_.hops/\0<=d.Bm_.sort/\∀ p∈d.bind.want,p.wf
def DdsG(i:In)(l:List G_):Prop:=i.err=0->∀ d∈l,DdG d
theorem ddq(q:M_):DdG (⟨2,0,aO,q,aP,[],0,0,0,0,0,aJ,[]⟩:G_):=
 ⟨⟨by simp,by simp,by simp,by simp⟩,by simp,by simp,by simp,by simp,λ_ h=>by cases h⟩
theorem dds_nil{i:In}:DdsG i []:=λ_ _ h=>by cases h
theorem dds_app{i j:In}{l:List G_}{d:G_}(h:DdsG i l)(he:j.err=0->i.err=0/\DdG d):DdsG j (l++[d]):=λe y hy=>by
 have⟨e1,e2⟩:=he e
 rcases List.mem_append.1 hy with q|q
 . exact h e1 y q
 . rw[List.mem_singleton.1 q];exact e2
theorem dds_shop{i:In}{r1 r2 r3:_}{l:List G_}(h:DdsG i l)(h1:V_ i 16=r1)(h2:R_ r1.2 1=r2)(h3:V_ r2.2 16=r3):DdsG r3.2 (l++[(⟨0,0,(⟨r1.1,r2.1,r3.1⟩:W_),aM,aP,[],0,0,0,0,0,aJ,[]⟩:G_)]):=by
 refine dds_app h λe=>?_;subst h3;have e2:=(Od_ e).1;subst h2;have e1:=(O2_ e2).1;subst h1;exact⟨(Od_ e1).1,⟨by simp,by simp,by simp,by simp⟩,by simp,by simp,by simp,(Ao_ _ _).1,λ_ h=>by cases h⟩
theorem dds_bind{i:In}{r5 r6 r7 r8 r9 r10:_}{l:List G_}(h:DdsG i l)(h5:V_ i 16=r5)(h6:V_ r5.2 16=r6)(h7:R_ r6.2 1=r7)(h8:V_ r7.2 64=r8)(h9:Br_ r8.2=r9)(h10:R_ r9.2 1=r10):DdsG r10.2 (l++[(⟨4,0,aO,aM,(⟨r5.1,r6.1,decide (r7.1=1),r8.1,r9.1,decide (r10.1=1)⟩:Q_),[],0,0,0,0,0,aJ,[]⟩:G_)]):=by
 refine dds_app h λe=>?_;subst h10;have e9:=(O2_ e).1;subst h9;have⟨e8,_,hd⟩:=headRead_back e9;subst h8;have k8:=Od_ e8;subst h7;have e6:=(O2_ k8.1).1;subst h6;have e5:=(Od_ e6).1;subst h5;refine⟨(Od_ e5).1,⟨?_,?_,by simp,by simp⟩,by simp,by simp,by simp,by simp,Rv_⟩;have :=k8.2.2;show (V_ _ 64).1.length<=1000;omega;have :=(Lm_ hd).1;show (Br_ _).1.length<=1000;omega
def B7_:List Z_->Out->Out
 |[],x2=>x2
 |x3::t,x2=>B7_ t (Af_ (C_ x2 (Ee_ x3) 1) (B0_ (x3.Ah_)))
def Db_(s:I_)(x:Out):Nat->Int->Nat->Out->Bs
 |0,_,_,_=>default
 | f2+1,many,v,x4=>(bif decide ((v:Int)<16) then
 lt (K2_ (A16.get s.rises v)) λr1=>
 (bif decide (0<r1) then
 Db_ s x f2 (A0 .u64 (many+1)) (v+1) (Af_ (C_ x4 (v:Int) 1) (Bu_ (A16.get s.rises v)))
 else Db_ s x f2 many (v+1) x4)
 else ((Af_ (C_ x many 1) x4.s).s))
def Ch_(s:I_):List Go_->Out->Bs
 |[],x=>Db_ s x (16-0+1) 0 0 aE
 | x5::t1,x=>(lt1 (lt (Fv_ (x5.l)) λr=>
 B7_ r (C_ (J_ (C_ (C_ (J_ x (x5.q.name)) (x5.q.most) 8) (x5.q.life) 8) (x5.q.dead)) (A0 .u64 (Fe_ (x5.l))) 1)) (λx1=>
 Ch_ s t1 x1))
def X_(s:I_):Bs:=
 Ch_ s s.rows (C_ (C_ aE s.next 8) (s.rows.length:Int) 1)
theorem kb_len1:∀ (t:List Z_) (x:Out),(B7_ t x).s.length<=x.s.length+3100*t.length
 |[],x=>by simp[B7_]
 |y::t,x=>by
   have h1:=kb_len1 t (Af_ (C_ x (Ee_ y) 1) (B0_ (y.Ah_)))
   have h2:=Eq_ (C_ x (Ee_ y) 1) (B0_ (y.Ah_))
   have h3:=Gz_ y.Ah_
   have h4:=Y_ x (Ee_ y) 1
   rw[B7_]
   exact sG
theorem kb_len2{s:I_}(hs:StkOk s)(x:Out):∀ (f:Nat) (many:Int) (v:Nat) (x4:Out),(Db_ s x f many v x4).length<=x.s.length+8+x4.s.length+60000*(16-v)
 |0,_,_,_=>AT _
 |f+1,many,v,x4=>by
   rw[Db_]
   refine bt (P:=λr:Bs=>r.length<=_) (λe=>?_) λe=>?_
   . simp only[decide_eq_true_eq] at e
     unfold lt
     refine bt (P:=λr:Bs=>r.length<=_) (λ_=>?_) λ_=>?_
     . have h1:=kb_len2 hs x f (A0 .u64 (many+1)) (v+1) (Af_ (C_ x4 (v:Int) 1) (Bu_ (A16.get s.rises v)))
       have h2:=Eq_ (C_ x4 (v:Int) 1) (Bu_ (A16.get s.rises v))
       have h3:=Y_ x4 (v:Int) 1
       have h4:=rb_len (hs.2.1 v qD)
       have h5:(Bu_ (A16.get s.rises v)).length<=50000:=h4
       omega
     . have h1:=kb_len2 hs x f many (v+1) x4
       omega
   . have h2:=Eq_ (C_ x many 1) x4.s
     have h3:=Y_ x many 1
     omega
theorem kb_len0{s:I_}(hs:StkOk s):∀ (t:List Go_) (x:Out),(∀ r∈t,LnOk r.l/\Bw_ r.q=0)->(Ch_ s t x).length<=x.s.length+200000*(t.length+5)
 |[],x,_=>by
   have h1:=kb_len2 hs x (16-0+1) 0 0 aE
   have h4:aE.s.length=0:=rfl
   rw[Ch_]
   simp only[A6]
   omega
 |r::t,x,h=>by
   rw[Ch_]
   have⟨hl,hq⟩:=h r qI
   have⟨q1,q2,_,_⟩:=Tw_ hq
   show (Ch_ s t (B7_ (Fv_ r.l) (C_ (J_ (C_ (C_ (J_ x (r.q.name)) (r.q.most) 8) (r.q.life) 8) (r.q.dead)) (A0 .u64 (Fe_ (r.l))) 1))).length<=_
   have h7:=A7_ x (r.q.name)
   generalize J_ x (r.q.name)=o1 at h7 ⊢
   have h6:=Y_ o1 (r.q.most) 8
   generalize C_ o1 (r.q.most) 8=o2 at h6 ⊢
   have h5:=Y_ o2 (r.q.life) 8
   generalize C_ o2 (r.q.life) 8=o3 at h5 ⊢
   have h4:=A7_ o3 (r.q.dead)
   generalize J_ o3 (r.q.dead)=o4 at h4 ⊢
   have h3:=Y_ o4 (A0 .u64 (Fe_ (r.l))) 1
   generalize C_ o4 (A0 .u64 (Fe_ (r.l))) 1=o5 at h3 ⊢
   have h8:=all_len hl
   have h2:=kb_len1 (Fv_ r.l) o5
   generalize B7_ (Fv_ r.l) o5=o6 at h2 ⊢
   have h1:=kb_len0 hs t o6 (λz hz=>h z qX)
   refine AZ h1 ?_
   clear h1
   generalize (Fv_ r.l).length=n at h2 h8
   exact sG
theorem kb_len{s:I_}(hs:StkOk s)(hq:RoB s):(X_ s).length<=3000000:=by
 unfold X_;have h3:=Y_ aE s.next 8;have h4:aE.s.length=0:=rfl;generalize C_ aE s.next 8=o1 at h3 ⊢;have h2:=Y_ o1 (s.rows.length:Int) 1;generalize C_ o1 (s.rows.length:Int) 1=o2 at h2 ⊢;have h1:=kb_len0 hs s.rows o2 (λr hr=>⟨hs.1.2.1 r hr,hq r hr⟩);have h5:=hs.1.1;refine AZ h1 ?_;clear h1;omega
theorem Bp_{z:Int}(h0:0<=z)(h1:z<=18446744073709551615:=by exact qD):IntKind.wrap .u64 z=z:=Qm_ ⟨h0,h1⟩
def Hx_(r1:Int×In):Nat->Int->Int->List Mail->In->Al_×In
 |0,_,_,_,_=>default
 | f2+1,k,total,kept,x1=>(bif ((decide (k<r1.1))&&(decide (x1.err=0))) then
 lt (De_ x1) λr2=>
 Hx_ r1 f2 (A0 .u64 (k+1)) total (kept++[r2.1]) r2.2
 else (bif !decide (x1.err=0) then
 (aR,x1)
 else ((⟨total,kept⟩:Al_),x1)))
def Jw_(i:In):Al_×In:=
 lt (R_ i 8) λr=>
 lt (R_ r.2 1) λr1=>
 (lt1 ((bif !decide (r1.2.err=0) then
 r1.2
 else (bif decide (16<r1.1) then
 (B2_ r1.2 6)
 else (bif !decide (r1.1=(min r.1 16)) then
 (B2_ r1.2 7)
 else r1.2)))) (λx=>
 Hx_ r1 ((r1.1-0).toNat+1) 0 r.1 [] x))
def Fw_(r1:Int×In):Nat->Int->Int->List Eb_->In->B8_×In
 |0,_,_,_,_=>default
 | f2+1,k,total,kept,x1=>(bif ((decide (k<r1.1))&&(decide (x1.err=0))) then
 lt (R_ x1 8) λr2=>
 lt (R_ r2.2 1) λr3=>
 lt (V_ r3.2 64) λr4=>
 Fw_ r1 f2 (A0 .u64 (k+1)) total (kept++[(⟨r2.1,r3.1,r4.1⟩:Eb_)]) r4.2
 else (bif !decide (x1.err=0) then
 (bD,x1)
 else ((⟨total,kept⟩:B8_),x1)))
def Ds_(i:In):B8_×In:=
 lt (R_ i 8) λr=>
 lt (R_ r.2 1) λr1=>
 (lt1 ((bif !decide (r1.2.err=0) then
 r1.2
 else (bif decide (32<r1.1) then
 (B2_ r1.2 6)
 else (bif !decide (r1.1=(min r.1 32)) then
 (B2_ r1.2 7)
 else r1.2)))) (λx=>
 Fw_ r1 ((r1.1-0).toNat+1) 0 r.1 [] x))
theorem rread_ok0(r1:Int×In):∀ (f:Nat) (k total:Int) (kept:List Mail) (x:In),(∀ m∈kept,MlOk m)->(kept.length:Int)=k->k<=16->(x.err=0->r1.1<=16)->RiOk (Hx_ r1 f k total kept x).1
 |0,_,_,_,_,_,_,_,_=>⟨Nat.zero_le _,λ_ h=>by cases h⟩
 |f+1,k,total,kept,x,h,hk,h16,he=>by
   rw[Hx_]
   refine bt (P:=λr:Al_×In=>RiOk r.1) (λe=>?_) λe=>?_
   . simp only[A5,decide_eq_true_eq] at e
     have h1:=he e.2
     refine rread_ok0 r1 f _ _ _ _ (mks_app h (O5_ x)) ?_ ?_ (λ_=>h1)
     . rw[Bp_ qD]
       exact sE
     . exact uY
   . refine bt (P:=λr:Al_×In=>RiOk r.1) (λ_=>riOk_nil) λ_=>?_
     exact⟨by show kept.length<=16;omega,λm hm=>(h m hm).1⟩
theorem V0_{i:In}{c:Int}(h:(B2_ i c).err=0):i.err=0/\c=0:=by
 by_cases hc:c=0;subst hc;rw[Vz_] at h;exact⟨h,rfl⟩;exact (Ls_ hc h).elim
theorem rread_ok(i:In):RiOk (Jw_ i).1:=by
 unfold Jw_ lt lt1;refine rread_ok0 _ _ _ _ _ _ mks_nil Z qF λe=>?_
 revert e
 refine bt (P:=λj:In=>j.err=0->_) (λe1 e2=>?_) λe1=>bt (P:=λj:In=>j.err=0->_) (λe2 e3=>(Ls_ qF e3).elim) λe2 _=>?_;exact tX;simp only[decide_eq_false_iff_not] at e2;omega
theorem nread_ok0(r1:Int×In):∀ (f:Nat) (k total:Int) (kept:List Eb_) (x:In),(x.err=0->NoB ⟨0,kept⟩)->(kept.length:Int)=k->k<=32->(x.err=0->r1.1<=32)->(Fw_ r1 f k total kept x).1.kept.length<=32/\NoB (Fw_ r1 f k total kept x).1
 |0,_,_,_,_,_,_,_,_=>⟨Nat.zero_le _,λ_ h=>by cases h⟩
 |f+1,k,total,kept,x,h,hk,h16,he=>by
   rw[Fw_]
   refine bt (P:=λr:B8_×In=>r.1.kept.length<=32/\NoB r.1) (λe=>?_) λe=>?_
   . simp only[A5,decide_eq_true_eq] at e
     have h1:=he e.2
     unfold lt
     refine nread_ok0 r1 f _ _ _ _ (λe4=>?_) ?_ ?_ (λ_=>h1)
     . intro y hy
       rcases List.mem_append.1 hy with q|q
       . exact h e.2 y q
       . rw[List.mem_singleton.1 q]
         have k1:=(Od_ e4).2.2
         have k2:=Ao_ (R_ x 8).2 1
         refine⟨?_,k2.1,k2.2.2.2 qF⟩
         show (V_ _ 64).1.length<=64
         omega
     . rw[Bp_ qD]
       exact sE
     . exact uY
   . refine bt (P:=λr:B8_×In=>r.1.kept.length<=32/\NoB r.1) (λ_=>⟨Nat.zero_le _,λ_ h=>by cases h⟩) λe1=>?_
     simp only[AN,decide_eq_true_eq] at e1
     exact⟨by show kept.length<=32;omega,h e1⟩
theorem nread_ok(i:In):(Ds_ i).1.kept.length<=32/\NoB (Ds_ i).1:=by
 unfold Ds_ lt lt1;refine nread_ok0 _ _ _ _ _ _ (λ_ _ h=>by cases h) Z qF λe=>?_
 revert e
 refine bt (P:=λj:In=>j.err=0->_) (λe1 e2=>?_) λe1=>bt (P:=λj:In=>j.err=0->_) (λe2 e3=>(Ls_ qF e3).elim) λe2 _=>?_;exact tX;simp only[decide_eq_false_iff_not] at e2;omega
theorem nread_e0{r1:Int×In}:∀ (f:Nat) (k total:Int) (kept:List Eb_) (x:In),k<r1.1+1->(r1.1-k).toNat<f->0<=k->r1.1<=255->(Fw_ r1 f k total kept x).2.err=0->x.err=0
 |0,_,_,_,_,_,hf,_,_,_=>by omega
 |f+1,k,total,kept,x,hk,hf,h0,h5,h=>by
   rw[Fw_] at h
   revert h
   refine bt (P:=λr:B8_×In=>r.2.err=0->x.err=0) (λe h=>?_) λe=>?_
   . simp only[A5,decide_eq_true_eq] at e
     exact e.2
   . exact bt (P:=λr:B8_×In=>r.2.err=0->x.err=0) (λ_ h=>h) λ_ h=>h
theorem binds_id(b:A3_):E9_ b=b.binds:=binds_eq b
theorem shops_f{b:A3_}(h:BkOk b)(h2:BkB b):(G7_ b).length<=8/\∀ s∈G7_ b,L2_ s=0:=⟨h.1,λs hs=>(h2.1 s hs).1⟩
theorem binds_f{b:A3_}(h:BkOk b)(h2:BkB b):(E9_ b).length<=32/\∀ s∈E9_ b,BiB s:=by
 rw[binds_id];exact⟨h.2.1,h2.2⟩
theorem bib_f{y:Q_}(h:BiB y):y.Bm_.length<=16/\y.to'.length<=16/\y.key.length<=64:=⟨h.1,Om_ h.2.1,h.2.2.1⟩
def F2_(x:Ab_):Nat->Nat->Out->Bs
 |0,_,_=>default
 | f4+1,v1,x4=>(bif decide ((v1:Int)<8) then
 F2_ x f4 (v1+1) (C_ (C_ x4 ((A8.get x.spent v1).round) 8) (A0 .u64 ((A8.get x.spent v1).count)) 1)
 else x4.s)
def Gx_(x:Ab_):Nat->Nat->Out->Bs
 |0,_,_=>default
 | f5+1,v,x3=>(bif decide ((v:Int)<16) then
 Gx_ x f5 (v+1) (C_ x3 (A16.get x.seen v) 8)
 else F2_ x (8-0+1) 0 x3)
def Fq_(x:Ab_):List Q_->Out->Bs
 |[],x2=>lt (X_ x.E_) λr2=>
 Gx_ x (16-0+1) 0 (Af_ (Af_ (C_ x2 (r2.length:Int) 4) r2) (Dh_ x.notes))
 |x5::t,x2=>Fq_ x t (C_ (Af_ (J_ (C_ (J_ (J_ x2 (x5.Bm_)) (x5.to')) (G1_ (x5.up)) 1) (x5.key)) (Bt_ (x5.want))) (G1_ (x5.all)) 1)
def Hg_(x:Ab_)(r1:(List Q_)):List W_->Out->Bs
 |[],x1=>Fq_ x r1 (C_ x1 (r1.length:Int) 1)
 |x6::t1,x1=>Hg_ x r1 t1 (J_ (C_ (J_ x1 (x6.name)) (x6.sort) 1) (x6.to'))
def Az_(x:Ab_):Bs:=
 lt (G7_ x.book) λr=>
 lt (E9_ x.book) λr1=>
 Hg_ x r1 r (C_ aE (r.length:Int) 1)
def D5_:List G_->Bs->Bs×Int
 |[],x=>(x,0)
 | x1::t,x=>(bif !decide ((Fj_ x1)=0) then
 ([],Fj_ x1)
 else D5_ t (x++Bd_ x1))
def D4_(l:List G_):Bs×Int:=
 (bif decide (255<(l.length:Int)) then
 ([],6)
 else D5_ l [UInt8.ofNat ((A0 .u8 (l.length:Int))).toNat])
variable{P:Program}{n:Nat}{N:Rest}{H0:Env}{Q:Qs}{ks:List Kt}{fF:Nat->PV}{fL:Nat->Blk}
theorem junk_le{i o b T0:Nat}{cs:List PV}(hb:fL i = .box b T0 cs):StLe ⟨fF,fL⟩ ⟨fF,lups fL i (.box b T0 (cs.set o .junk))⟩:=by
 intro H0 F H L ha;have hp:∀ {p v},SimT fL H p v->SimT (lups fL i (.box b T0 (cs.set o .junk))) H p v:=λ{p v} h=>by
   cases p with
   |osl q=>
     simp only[SimT] at h ⊢
     by_cases hq:q=i
     . subst hq;simp only[hb] at h
       simp only[lups,Nat.beq_refl,cond_true]
     . rw[Gg_ hq];exact h
   |_=>exact h
 refine⟨ha.le,ha.g,λt=>hp (ha.f t),λq=>?_⟩;have hq:SimB fL H (fL q) (L q):=ha.l q;by_cases e:q=i
 . subst e
   show SimB _ H (lups fL q _ q) (L q)
   rw[Dd_]
   rw[hb] at hq
   have⟨vs,h1,h2,h3⟩:=hq
   refine⟨vs,h1,by simp[h2],λm p v hm hv=>?_⟩
   rw[List.getElem?_set] at hm
   split at hm
   . split at hm
     . cases hm;exact Sim.junk
     . cases hm
   grind
 . show SimB _ H (lups fL i _ q) (L q)
   rw[Gg_ e]
   have hq':SimB fL H (fL q) (L q):=hq
   generalize fL q=B at hq' ⊢
   cases B with
   |box b' T' cs'=>have⟨vs,h1,h2,h3⟩:=hq';exact⟨vs,h1,h2,λm p v hm hv=>hp (h3 m p v hm hv)⟩
   |_=>exact hq'
theorem bx_junk{i b T0:Nat}{cs:List PV}{c:Code}(o:Nat)(hb:fL i = .box b T0 cs)(kk:Hd P n N H0 Q (.code c) ks ⟨fF,lups fL i (.box b T0 (cs.set o .junk))⟩):Hd P n N H0 Q (.code c) ks ⟨fF,fL⟩:=
 SW.hd_le (junk_le hb) (λ_ h=>by cases h) kk
theorem rm2{tb:Tb}{rs:List ResultVar}{res p1 p2:PV}{b b' T:Nat}{post q:List PV}{as0 bs:List Nat}(h:Jv_ tb ⟨fF,fL⟩ rs=some ([p1,p2],as0,bs))(he:as0=bs)(hp:PLe (.tup [p1,p2]) res)(hb:fL 0 = .box b' T q)(hbb:b'=b)(hn:Du_ q=true)(hq:PLes q post):Hd P n N H0 (rmK tb rs res b T post) (.ex .ret) [] ⟨fF,fL⟩:=SW.rm h he hp hb hbb hn hq
end Go.SW.V
namespace Go.SW
structure RdR where
 p:Unit
 E1_:List G_
deriving DecidableEq,Inhabited
def RdR.pc(x:RdR):List PV:=[.junk, .sl G_.pc x.E1_]
variable{P:Program}{n:Nat}{N:Rest}{H0:Env}{all rest:List Oper}{Q:Qs}{ks:List Kt}{s:St}{T ty d:Nat}{pos:String}{af:Array Edge}{x:Operand}{K:St->Prop}
structure Fy(P:Program)(G:Gb)(f:FuncId)(arg:PV)(args:List PV)(T:TypeId)(pre:List PV)(res:PV)(post:List PV):Prop where
 cb:Aa_ P f
 no:res.noOsl=true
 np:Du_ post=true
 run:∀ (N:Rest) (H:Hp) (L:Ls) (w:World) (b i:Nat) (v0:Value) (vs vc:List Value),G.p H->Sim H arg v0->Sims H args vs->L i=some (b,bx T vc)->Sims H pre vc->Mem N H L w ->
   Calls P f (v0::Value.pointer (some ⟨b,0,none⟩)::vs).toArray w λe w'=>∃ v H' vc',e = .returned v/\Sim H' res v/\Sims H' post vc'/\HLe H H'/\Mem N H' (lupd L i (some (b,bx T vc'))) w'
theorem fy_cw{tb:Tb}{G:Gb}{m:Nat}{f:FuncId}{fn:Func}{c:Code}{arg:PV}{args pre post:List PV}{res:PV}{T:Nat}(ht:tbB P tb=true)(hf:P.funcs[f]? = some fn)(hb:fn.body=some c)(hn:fn.ntmps=m)(hs:Nat.ble (args.length+2) m=true)(hcb:Aa_ P f)(hno:res.noOsl=true)(hna:Du_ (arg::args)=true)(hnp:Du_ pre=true)(hnq:Du_ post=true)
   (h:PV.wfs (arg::args)->PV.wfs pre->∀ b N H,G.p H->Hd P m N ⟨H,G⟩ (rmK tb fn.results.toList res b T post) (.code c) [] ⟨O4_ (arg :: .own 0 b 0::args),lups (λ_=> .no) 0 (.box b T pre)⟩):Fy P G f arg args T pre res post:=by
 refine⟨hcb,hno,hnq,λN H L w b i v0 vs vc hg hs0 hsim hL hpre hm=>?_⟩;subst hn;simp only[Du_,A5] at hna;have hs':Sims H (arg :: .own 0 b 0::args) (v0::CU (some ⟨b,0,none⟩)::vs):=(hsim.cons Sim.own).cons hs0;have key:Pm P f (v0::CU (some ⟨b,0,none⟩)::vs).toArray H b (bx T vc) (λv H' o'=>∃ vc',o'=bx T vc'/\Sim H' res v/\Sims H' post vc'):=by
   refine pm_of_cw hf hb pQ λN=>?_
   have h1:=h (hsim.cons hs0).wf hpre.wf b N H hg (Lc_ (v0::CU (some ⟨b,0,none⟩)::vs).toArray) H (ofL [(b,bx T vc)]) ⟨.refl H,hg,λt=>Ml_ hs' (by simp only [Du_,A5];exact ⟨hna.1,rfl,hna.2⟩) t,λj=>by
     by_cases e:j=0
     . subst e;simp only[Dd_];exact⟨vc,rfl,H7_ hpre hnp⟩
     . simp only[Gg_ e];trivial⟩
   refine Kq_ (λe F' H' L' hq=>?_) h1
   have⟨s',ha',hq',q,hq1,hq2,hq3⟩:=hq
   have⟨he,v,hr,hv⟩:=Pb_ (N:=N) ht ha' hq'
   have h3:=ha'.l 0
   rw[hq1] at h3
   have⟨vc',hL',hsv⟩:=h3
   rcases he with rfl|rfl
   . exact yC
   . exact yC
 exact zF
theorem ecally{f:FuncId}{arg:PV}{args pre post:List PV}{res:PV}{as0:Array Operand}{ats:Array TypeId}{i b b' T0 off:Nat}(h:Fy P H0.g f arg args T0 pre res post)(ha:argsP s.F x as0.toList=some (f,arg :: .own i b off::args))(hoff:off=0)(hb:s.L i = .box b' T0 pre)(hbb:b'=b)(hd:Nat.blt d n=true)(k:res.wf->PV.wfs post->K ⟨updp s.F d res,lups s.L i (.box b T0 post)⟩):E1 P n N H0 all ⟨some d, .call ⟨.value x,as0,ats⟩,ty,pos,af,none⟩ (some i) s K:=by
 intro F H L hab;subst hoff;subst hbb;have⟨us,h1,h2⟩:=If_ (ats:=ats) hab.f ha h.cb;obtain⟨v1,us1,rfl,g3,g4⟩:=h1.inv_cons;obtain⟨v0,vs,rfl,h3,h4⟩:=g4.inv_cons;have h5:=h3.inv_own;subst h5;have h6:=hab.l i;exact tH
end Go.SW
namespace Go.SW.V
open Go.SW
variable{P:Program}{n:Nat}{N:Rest}{H0:Env}{all rest:List Oper}{Q:Qs}{ks:List Kt}{fF:Nat->PV}{fL:Nat->Blk}{T ty d:Nat}{pos:String}{af:Array Edge}{x:Operand}{K:St->Prop}
theorem ecally{f:FuncId}{arg:PV}{args pre post:List PV}{res:PV}{as0:Array Operand}{ats:Array TypeId}{i b b' T0 off:Nat}(h:Fy P H0.g f arg args T0 pre res post)(ha:argsP fF x as0.toList=some (f,arg :: .own i b off::args))(hoff:off=0)(hb:fL i = .box b' T0 pre)(hbb:b'=b)(hd:Nat.blt d n=true)(k:res.wf->PV.wfs post->K ⟨updp fF d res,lups fL i (.box b T0 post)⟩):E1 P n N H0 all ⟨some d, .call ⟨.value x,as0,ats⟩,ty,pos,af,none⟩ (some i) ⟨fF,fL⟩ K:=by
 intro F H L hab;subst hoff;subst hbb;have⟨us,h1,h2⟩:=If_ (ats:=ats) hab.f ha h.cb;obtain⟨v1,us1,rfl,g3,g4⟩:=h1.inv_cons;obtain⟨v0,vs,rfl,h3,h4⟩:=g4.inv_cons;have h5:=h3.inv_own;subst h5;have h6:=hab.l i;dsimp only at h6;exact tH
theorem kmake_pos(s:I_)(q:M_):(Bb_ s q).2=0->0<(Bb_ s q).1.rows.length:=by
 unfold Bb_ lt;let R:I_×Int->Prop:=λr=>r.2=0->0<r.1.rows.length;refine bt (P:=R) (λe h=>?_) λ_=>bt (P:=R) (λe _=>?_) λ_=>bt (P:=R) (λ_ h=>by cases h) λ_=>bt (P:=R) (λ_ h=>by cases h) λ_ _=>?_
 exact tV;simp only[A5,decide_eq_true_eq] at e;have :=at_b s q.name;have :=e.1;show 0<s.rows.length;omega;simp
def Bg_(s:I_)(r:Bs×In)(r1:Int×In)(r2:Int×In)(r3:Bs×In):Nat->List Z_->Int->In->I_×In
 |0,_,_,_=>default
 | f2+1,items,n,x=>(bif ((decide (0<n))&&(decide (x.err=0))) then
 lt (R_ x 1) λr5=>
 lt (De_ r5.2) λr6=>
 (bif ((decide (3<r5.1))||((!decide (s.next = 0))&&(decide (s.next <= r6.1.id)))) then
 Bg_ s r r1 r2 r3 f2 (items++[(⟨r6.1,decide ((r5.1%2)=1),decide ((r5.1/2)=1)⟩:Z_)]) (A0 .u64 (n-1)) (B2_ r6.2 4)
 else Bg_ s r r1 r2 r3 f2 (items++[(⟨r6.1,decide ((r5.1%2)=1),decide ((r5.1/2)=1)⟩:Z_)]) (A0 .u64 (n-1)) r6.2)
 else lt (Us_ items) λr7=>
 (lt1 ((bif ((decide (r1.1<(A0 .u64 (Fe_ r7.1))))||(decide (0<=(O_ s r.1)))) then
 (B2_ (B2_ x r7.2) 4)
 else (B2_ x r7.2))) (λx1=>
 lt (Bb_ s (⟨r.1,r1.1,r2.1,r3.1⟩:M_)) λr8=>
 (bif decide (((B2_ x1 r8.2).err)=0) then
 lt (Ak_ r8.1 ((r8.1.rows.length:Int)-1) r7.1) λr9=>
 (r9,(B2_ x1 r8.2))
 else (r8.1,(B2_ x1 r8.2))))))
def Cw_(s:I_)(i:In):I_×In:=
 lt (V_ i 16) λr=>
 lt (R_ r.2 8) λr1=>
 lt (R_ r1.2 8) λr2=>
 lt (V_ r2.2 16) λr3=>
 lt (R_ r3.2 1) λr4=>
 Bg_ s r r1 r2 r3 ((r4.1).toNat+1) [] r4.1 r4.2
theorem stk_def:StkOk default/\RoB default:=⟨knew_ok 0 0 qF,λ_ h=>by cases h⟩
theorem rob_make{s:I_}{q:M_}(h:RoB s):RoB (Bb_ s q).1:=cloB.km h
theorem rrow_ok0{s:I_}(hs:StkOk s)(hq:RoB s)(r:Bs×In)(r1 r2:Int×In)(r3:Bs×In):∀ (f:Nat) (items:List Z_) (n:Int) (x:In),(∀ y∈items,MlOk y.Ah_)->StkOk (Bg_ s r r1 r2 r3 f items n x).1/\RoB (Bg_ s r r1 r2 r3 f items n x).1
 |0,_,_,_,_=>stk_def
 |f+1,items,n,x,hi=>by
   rw[Bg_]
   let R:I_×In->Prop:=λy=>StkOk y.1/\RoB y.1
   refine bt (P:=R) (λ_=>?_) λ_=>?_
   . have h1:=mls_app (x:=(⟨(De_ (R_ x 1).2).1,decide (((R_ x 1).1%2)=1),decide (((R_ x 1).1/2)=1)⟩:Z_)) hi (O5_ (R_ x 1).2)
     unfold lt
     exact bt (P:=R) (λ_=>rrow_ok0 hs hq r r1 r2 r3 f _ _ _ h1) λ_=>rrow_ok0 hs hq r r1 r2 r3 f _ _ _ h1
   . unfold lt lt1
     refine bt (P:=R) (λe=>?_) λ_=>⟨Qw_ hs,rob_make hq⟩
     simp only[decide_eq_true_eq] at e
     have h2:=kmake_pos s _ (V0_ e).2
     exact⟨Qx_ (Qw_ hs) (lof_ok hi) qD,Q6_ (rob_make hq)⟩
theorem rrow_ok{s:I_}(hs:StkOk s)(hq:RoB s)(i:In):StkOk (Cw_ s i).1/\RoB (Cw_ s i).1:=by
 unfold Cw_ lt;exact rrow_ok0 hs hq _ _ _ _ _ _ _ _ mls_nil
theorem knew_f(b n:Int)(h:n<=1000000):StkOk (Bl_ b n)/\RoB (Bl_ b n):=⟨knew_ok b n h,λ_ h=>by cases h⟩
def H3_:Nat->Int->In->I_->In×I_
 |0,_,_,_=>default
 | f4+1,n1,x4,x5=>(bif ((decide (0<n1))&&(decide (x4.err=0))) then
 lt (R_ x4 1) λr5=>
 lt (Jw_ r5.2) λr6=>
 (bif decide (16<=r5.1) then
 ((B2_ r6.2 4),x5)
 else H3_ f4 (A0 .u64 (n1-1)) r6.2 (⟨x5.next,x5.bytes,x5.rows,(A16.set x5.rises r6.1 ((r5.1).toNat))⟩:I_))
 else (x4,x5))
def Gs_(text:Bs):Nat->Int->In->I_->I_×Int
 |0,_,_,_=>default
 | f5+1,n,x,x1=>(bif ((decide (0<n))&&(decide (x.err=0))) then
 lt (Cw_ x1 x) λr3=>
 Gs_ text f5 (A0 .u64 (n-1)) r3.2 r3.1
 else (lt2 (lt (R_ x 1) λr4=>
 H3_ ((r4.1).toNat+1) r4.1 r4.2 x1) (λx2 x3=>
 (bif (((!decide ((Vj_ x2)=0))||(decide ((Ek_ x3)<0)))||(!decide ((X_ x3)=text))) then
 (bP,4)
 else (x3,0)))))
def Hy_(text:Bs)(bytes:Int):I_×Int:=
 lt (R_ (⟨text,0⟩) 8) λr=>
 lt (Bl_ r.1 bytes) λr1=>
 lt (R_ r.2 1) λr2=>
 Gs_ text ((r2.1).toNat+1) r2.1 r2.2 r1
theorem kof_ok1:∀ (f:Nat) (n:Int) (x:In) (s:I_),StkOk s->RoB s->StkOk (H3_ f n x s).2/\RoB (H3_ f n x s).2
 |0,_,_,_,_,_=>stk_def
 |f+1,n,x,s,hs,hq=>by
   rw[H3_]
   let R:In×I_->Prop:=λy=>StkOk y.2/\RoB y.2
   refine bt (P:=R) (λ_=>?_) λ_=>⟨hs,hq⟩
   unfold lt
   refine bt (P:=R) (λ_=>⟨hs,hq⟩) λe=>?_
   simp only[decide_eq_false_iff_not] at e
   have h0:=(Ao_ x 1).1
   exact kof_ok1 f _ _ _ (hs.set _ qD (rread_ok _)) hq
theorem kof_ok0(text:Bs):∀ (f:Nat) (n:Int) (x:In) (s:I_),StkOk s->RoB s->StkOk (Gs_ text f n x s).1/\RoB (Gs_ text f n x s).1
 |0,_,_,_,_,_=>stk_def
 |f+1,n,x,s,hs,hq=>by
   rw[Gs_]
   let R:I_×Int->Prop:=λy=>StkOk y.1/\RoB y.1
   refine bt (P:=R) (λ_=>?_) λ_=>?_
   . have⟨h1,h2⟩:=rrow_ok hs hq x
     exact kof_ok0 text f _ _ _ h1 h2
   . unfold lt2 lt
     have h3:=kof_ok1 ((R_ x 1).1.toNat+1) (R_ x 1).1 (R_ x 1).2 s hs hq
     exact bt (P:=R) (λ_=>knew_f 0 0 qF) λ_=>h3
theorem kof_ok(text:Bs)(n:Int)(hn:n<=1000000):StkOk (Hy_ text n).1/\RoB (Hy_ text n).1:=by
 unfold Hy_ lt;have⟨h1,h2⟩:=knew_f (R_ (⟨text,0⟩:In) 8).1 n hn;exact kof_ok0 text _ _ _ _ h1 h2
def A6_(r:RdR):List G_->D_->A3_×Bool×RdR
 |[],x1=>lt (S_ x1) λr4=>
 (r4.book,true,(⟨(),r.E1_⟩:RdR))
 |x2::t,x1=>lt (S_ x1) λr2=>
 lt (H_ x1 x2) λr3=>
 (bif ((!decide (r3.2.2=0))||(Jm_ r2.book ((S_ r3.1).book))) then
 (aV,false,(⟨(),r.E1_⟩:RdR))
 else A6_ r t r3.1)
def Cg_(r:RdR):List M_->D_->A3_×Bool×RdR
 |[],x=>A6_ r r.E1_ x
 |x3::t1,x=>lt (H_ x (⟨2,0,aO,x3,aP,[],0,0,0,0,0,aJ,[]⟩:G_)) λr1=>
 Cg_ r t1 r1.1
def A5_(r:RdR)(s:D_)(queues:List M_):A3_×Bool×RdR:=
 Cg_ r queues s
def EqT(i:In)(m:Int)(r:Bs×In):Prop:=V_ i m=r
def EqN(i:In)(m:Int)(r:Int×In):Prop:=R_ i m=r
def EqR(i:In)(m:Int)(r:Bs×In):Prop:=Fk_ i m=r
def EqH(i:In)(r:List Pair×In):Prop:=Br_ i=r
def EqO(i:In)(r:B8_×In):Prop:=Ds_ i=r
theorem book_ok1(r:RdR):∀ (t:List G_) (s:D_),StOk s->StB s->(∀ d∈t,DdG d)->BkOk (A6_ r t s).1/\BkB (A6_ r t s).1
 |[],s,hs,hb,_=>⟨hs.1.1,hb.1⟩
 |d::t,s,hs,hb,hd=>by
   rw[A6_]
   unfold lt
   let R:A3_×Bool×RdR->Prop:=λy=>BkOk y.1/\BkB y.1
   have⟨h1,h2,h3,h4,h5,h6⟩:=hd d qI
   refine bt (P:=R) (λ_=>⟨⟨by simp,by simp,λ_ h=>by cases h⟩,(λ_ h=>by cases h),λ_ h=>by cases h⟩) λ_=>?_
   exact book_ok1 r t _ (Uh_ hs h1 h4) (doB ⟨h2,h3⟩ hs h4 h5 h6 hb) λy hy=>hd y pA
theorem book_ok0(r:RdR):∀ (t:List M_) (s:D_),StOk s->StB s->(∀ d∈r.E1_,DdG d)->BkOk (Cg_ r t s).1/\BkB (Cg_ r t s).1
 |[],s,hs,hb,hd=>by rw[Cg_];exact book_ok1 r _ s hs hb hd
 |q::t,s,hs,hb,hd=>by
   rw[Cg_]
   unfold lt
   have⟨h1,h2,h3,h4,h5,h6⟩:=ddq q
   exact book_ok0 r t _ (Uh_ hs h1 h4) (doB ⟨h2,h3⟩ hs h4 h5 h6 hb) hd
theorem book_ok(r:RdR)(s:D_)(queues:List M_)(hs:StOk s)(hb:StB s)(hd:∀ d∈r.E1_,DdG d):BkOk (A5_ r s queues).1/\BkB (A5_ r s queues).1:=book_ok0 r queues s hs hb hd
theorem nread_err{i:In}(h:(Ds_ i).2.err=0):i.err=0:=by
 unfold Ds_ lt lt1 at h;have h1:=Ao_ (R_ i 8).2 1;have h2:=nread_e0 _ _ _ _ _ qD qD qF (h1.2.2.2 qF) h
 revert h2
 have h3:(R_ (R_ i 8).2 1).2.err=0->i.err=0:=λe=>(O2_ (O2_ e).1).1;refine bt (P:=λj:In=>j.err=0->i.err=0) (λ_=>h3) λ_=>bt (P:=λj:In=>j.err=0->i.err=0) (λ_ e=>h3 (V0_ e).1) λ_=>bt (P:=λj:In=>j.err=0->i.err=0) (λ_ e=>h3 (V0_ e).1) λ_=>h3
theorem dds_mono{i j:In}{l:List G_}(h:DdsG i l)(he:j.err=0->i.err=0):DdsG j l:=λe=>h (he e)
theorem L6_{i:In}{n:Int}{r:_}{l:List G_}(h:DdsG i l)(h1:R_ i n=r):DdsG r.2 l:=dds_mono h λe=>by subst h1;exact (O2_ e).1
theorem dds_raw{i:In}{n:Int}{r:_}{l:List G_}(h:DdsG i l)(h1:Fk_ i n=r):DdsG r.2 l:=dds_mono h λe=>by subst h1;exact (S8_ e).1
theorem dds_notes{i:In}{r:_}{l:List G_}(h:DdsG i l)(h1:Ds_ i=r):DdsG r.2 l:=dds_mono h λe=>by subst h1;exact nread_err e
theorem inEnd_e{i:In}(h:Vj_ i=0):i.err=0:=by
 unfold Vj_ at h
 split at h
 omega;exact h
def PkOk(x:Ab_):Prop:=StkOk x.E_/\RoB x.E_/\x.notes.kept.length<=32/\NoB x.notes
theorem imOk_of{b:A3_}{x:Ab_}{a:_}{c:_}(h:BkOk b/\BkB b)(k:PkOk x):ImOk ⟨b,x.E_,x.notes,a,c⟩:=⟨h.1,h.2,k⟩
theorem Ux_{p:F_}{k:Int}(hp:PoOk p)(hk:0<=k/\k<p.places.length):(gt p.places k.toNat).bytes<=1000000:=by
 have h1:=hp.2.2.2.2.2.2 (gt p.places k.toNat) (I2_ qD);omega
def C8_(text:Bs)(p:F_)(place:Int)(deeds1:List G_)(r13:I_×Int):Nat->Int->Nat->In->Ab_->Ab_×Int
 |0,_,_,_,_=>default
 | f8+1,e_1,v1,x4,x5=>(bif decide ((v1:Int)<8) then
 lt (R_ x4 8) λr16=>
 lt (R_ r16.2 1) λr17=>
 (bif decide (16<((A8.get (A8.set x5.spent (⟨r16.1,r17.1⟩:Ai_) v1) v1).count)) then
 C8_ text p place deeds1 r13 f8 4 (v1+1) r17.2 (⟨x5.book,x5.E_,x5.notes,x5.seen,(A8.set x5.spent (⟨r16.1,r17.1⟩:Ai_) v1)⟩:Ab_)
 else C8_ text p place deeds1 r13 f8 e_1 (v1+1) r17.2 (⟨x5.book,x5.E_,x5.notes,x5.seen,(A8.set x5.spent (⟨r16.1,r17.1⟩:Ai_) v1)⟩:Ab_))
 else (bif ((!decide ((Vj_ x4)=0))||(!decide (e_1=0))) then
 (bI,4)
 else lt (At_ p place) λr18=>
 lt (A9_ (r13.1)) λr19=>
 lt (A5_ (⟨(),deeds1⟩:RdR) r18 r19) λr20=>
 (bif ((!r20.2.1)||(!decide ((Az_ (⟨(r20.1),x5.E_,x5.notes,x5.seen,x5.spent⟩:Ab_))=text))) then
 (bI,4)
 else ((⟨(r20.1),x5.E_,x5.notes,x5.seen,x5.spent⟩:Ab_),0))))
def Dv_(text:Bs)(p:F_)(place:Int)(deeds1:List G_)(r13:I_×Int):Nat->Nat->In->Ab_->Ab_×Int
 |0,_,_,_=>default
 | f9+1,v,x2,x3=>(bif decide ((v:Int)<16) then
 lt (R_ x2 8) λr15=>
 Dv_ text p place deeds1 r13 f9 (v+1) r15.2 (⟨x3.book,x3.E_,x3.notes,(A16.set x3.seen r15.1 v),x3.spent⟩:Ab_)
 else C8_ text p place deeds1 r13 (8-0+1) r13.2 0 x2 x3)
def Cn_(text:Bs)(p:F_)(place:Int):Nat->Int->In->List G_->Ab_×Int
 |0,_,_,_=>default
 | f10+1,n1,x1,deeds1=>(bif ((decide (0<n1))&&(decide (x1.err=0))) then
 lt (V_ x1 16) λr5=>
 lt (V_ ((r5).2) 16) λr6=>
 lt (R_ ((r6).2) 1) λr7=>
 lt (V_ ((r7).2) 64) λr8=>
 lt (Br_ r8.2) λr9=>
 lt (R_ r9.2 1) λr10=>
 Cn_ text p place f10 (A0 .u64 (n1-1)) r10.2 (deeds1++[(⟨4,0,aO,aM,(⟨(r5).1,(r6).1,decide (((r7).1)=1),r8.1,r9.1,decide (r10.1=1)⟩:Q_),[],0,0,0,0,0,aJ,[]⟩:G_)])
 else lt (R_ x1 4) λr11=>
 lt (Fk_ ((r11).2) (A0 .i64 ((r11).1))) λr12=>
 lt (Hy_ (r12.1) ((gt p.places ((place).toNat)).bytes)) λr13=>
 lt (Ds_ (r12.2)) λr14=>
 Dv_ text p place deeds1 r13 (16-0+1) 0 (r14.2) (⟨aV,(r13.1),(r14.1),(⟨0,0,0,0,0,0,0,0,0,0,0,0,0,0,0,0⟩:A16_u64),(⟨aK,aK,aK,aK,aK,aK,aK,aK⟩:A8_SpentR)⟩:Ab_))
def Ec_(text:Bs)(p:F_)(place:Int):Nat->Int->In->List G_->Ab_×Int
 |0,_,_,_=>default
 | f11+1,n,x,E1_=>(bif ((decide (0<n))&&(decide (x.err=0))) then
 lt (V_ x 16) λr1=>
 lt (R_ ((r1).2) 1) λr2=>
 lt (V_ ((r2).2) 16) λr3=>
 Ec_ text p place f11 (A0 .u64 (n-1)) r3.2 (E1_++[(⟨0,0,(⟨(r1).1,(r2).1,r3.1⟩:W_),aM,aP,[],0,0,0,0,0,aJ,[]⟩:G_)])
 else lt (R_ x 1) λr4=>
 Cn_ text p place ((r4.1).toNat+1) r4.1 r4.2 E1_)
def Hk_(text:Bs)(p:F_)(place:Int):Ab_×Int:=
 lt (R_ (⟨text,0⟩) 1) λr=>
 Ec_ text p place ((r.1).toNat+1) r.1 r.2 []
theorem im_st{s:D_}(h:StOk s)(k:StB s):ImOk (S_ s):=⟨h.1.1,k.1,h.1.2.1,k.2.1,h.1.2.2.1,k.2.2⟩
theorem bit_n(b:Bool):(G1_ b).toNat=bitM b:=by cases b<;>rfl
theorem ib0(x:Ab_)(r1:List Q_):∀ (t:List W_) (o:Out),(∀ s∈t,L2_ s=0)->Hg_ x r1 t o=Fq_ x r1 (C_ ⟨o.s++t.flatMap Rh_,o.err⟩ (r1.length:Int) 1)
 |[],o,_=>by rw[Hg_];simp
 |y::t,o,h=>by
   have hy:=U0_ (h y qI)
   rw[Hg_,ib0 x r1 t _ (λz hz=>h z qX),Bq_ (s:=y.name) qD,Gh_ (n:=y.sort),Bq_ (s:=y.to') qD]
   simp[Rh_,A7]
theorem ib1(x:Ab_):∀ (t:List Q_) (o:Out),(∀ y∈t,BiB y)->Fq_ x t o=Fq_ x [] ⟨o.s++t.flatMap Mi_,o.err⟩
 |[],o,_=>by simp
 |y::t,o,h=>by
   have hy:=bib_f (h y qI)
   rw[Fq_.eq_2,ib1 x t _ (λz hz=>h z qX),Bq_ (s:=y.Bm_) qD,Bq_ (s:=y.to') qD,Gh_ (n:=G1_ y.up),Bq_ (s:=y.key) qD,Gh_ (n:=G1_ y.all),bit_n,bit_n]
   simp[Mi_,Af_,A7]
theorem ib3(x:Ab_):∀ (f v:Nat) (o:Out),8-v<f->∃ z:Bs,F2_ x f v o=o.s++z/\z.length=9*(8-v)
 |0,_,_,h=>by omega
 |f+1,v,o,h=>by
   rw[F2_]
   by_cases e:(v:Int)<8
   . have⟨z,h1,h2⟩:=ib3 x f (v+1) (C_ (C_ o ((A8.get x.spent v).round) 8) (A0 .u64 ((A8.get x.spent v).count)) 1) qD
     rw[decide_eq_true e,cond_true,h1,Gh_,Jp_]
     exact⟨numB 8 (A8.get x.spent v).round.toNat++(numB 1 (A0 .u64 ((A8.get x.spent v).count)).toNat++z),by simp only[A7],by simp only[A1,Ad_,h2];omega⟩
   . rw[decide_eq_false e,cond_false]
     exact⟨[],by simp,by simp;omega⟩
theorem ib2(x:Ab_):∀ (f v:Nat) (o:Out),16-v<f->∃ z:Bs,Gx_ x f v o=o.s++z/\z.length=8*(16-v)+72
 |0,_,_,h=>by omega
 |f+1,v,o,h=>by
   rw[Gx_]
   by_cases e:(v:Int)<16
   . have⟨z,h1,h2⟩:=ib2 x f (v+1) (C_ o (A16.get x.seen v) 8) qD
     rw[decide_eq_true e,cond_true,h1,Jp_]
     exact⟨numB 8 (A16.get x.seen v).toNat++z,by simp only[A7],by simp only[A1,Ad_,h2];omega⟩
   . rw[decide_eq_false e,cond_false]
     have⟨z,h1,h2⟩:=ib3 x (8-0+1) 0 o qD
     exact⟨z,h1,by omega⟩
theorem nb_eq0:∀ (t:List Eb_) (o:Out),(∀ y∈t,y.text.length<=64)->Cz_ t o=o.s++t.flatMap Rc_
 |[],o,_=>by simp[Cz_]
 |y::t,o,h=>by
   have hy:=h y qI
   rw[Cz_,nb_eq0 t _ (λz hz=>h z qX),Gh_,Jp_,Bq_ qD]
   simp[Rc_,A7]
theorem nb_eq{n:B8_}(h:NoB n):Dh_ n=K8_ n:=by
 unfold Dh_;rw[nb_eq0 _ _ (λy hy=>(h y hy).1),Gh_,Jp_];simp[K8_]
theorem ib_eq{x:Ab_}(h:ImOk x):∃ z:Bs,z.length=200/\Az_ x=bookB x.book++(numB 4 (X_ x.E_).length++(X_ x.E_++(K8_ x.notes++z))):=by
 have⟨h1,h2,h3,h4,h5,h6⟩:=h;unfold Az_ lt;rw[binds_id,shops_eq];dsimp only;rw[ib0 _ _ _ _ (λs hs=>(h2.1 s hs).1),Gh_,Gh_,ib1 _ _ _ h2.2,Fq_];unfold lt;dsimp only;have⟨z,e1,e2⟩:=ib2 x (16-0+1) 0 (Af_ (Af_ (C_ ⟨([]++numB 1 (x.book.Bs_.length:Int).toNat++x.book.Bs_.flatMap Rh_++numB 1 (x.book.binds.length:Int).toNat)++x.book.binds.flatMap Mi_,0⟩ ((X_ x.E_).length:Int) 4) (X_ x.E_)) (Dh_ x.notes)) qD;refine⟨z,by omega,?_⟩;refine e1.trans ?_;rw[Ya_,nb_eq h6];simp[Af_,bookB,A7]
theorem im_pos{x:Ab_}(h:ImOk x):0<(Az_ x).length:=by
 have⟨z,h1,h2⟩:=ib_eq h;rw[h2];exact sF
end Go.SW.V
namespace Go.SW
structure Ay_ where
 store:D_
 log:C5_
deriving Inhabited
end Go.SW
namespace Go.SW.V
open Go.SW
def Jz_(l:C5_):Int×C5_:=
 lt (F9_ l) λr=>
 (bif ((!decide (r=0))||(decide (l.waits=[]))) then
 (r,l)
 else lt (A2_ l l.A4_ (1+((l.done.length:Int)/64)) 0 ((l.done.drop ((((l.done.length:Int)/64)*64)).toNat)++l.waits)) λr1=>
 (bif !decide (r1.1=0) then
 (r1.1,r1.2)
 else (0,(⟨r1.2.d,r1.2.A4_,r1.2.gen,r1.2.ready,r1.2.broken,(r1.2.done++r1.2.waits),[]⟩:C5_))))
def L_(v:Ay_):Ab_:=
 lt (S_ v.store) λr=>
 r
def Dn_(v:Ay_):Int×Ay_:=
 lt (Jz_ v.log) λr=>
 (r.1,(⟨v.store,r.2⟩:Ay_))
def B5_(v:Ay_)(l:List G_):List G_->Nat->List Aq_->D_->(List Aq_)×Int×Int×Ay_
 |[],k,out,x=>lt (D4_ l) λr2=>
 (bif !decide (r2.2=0) then
 ([],0,r2.2,v)
 else lt (B1_ v.log [r2.1]) λr3=>
 (bif decide (r3.1=17) then
 lt (S_ x) λr4=>
 lt (Eg_ r3.2 (Az_ r4)) λr5=>
 (bif !decide (r5.1=0) then
 ([],0,r5.1,(⟨v.store,r5.2⟩:Ay_))
 else (out,0,0,(⟨x,r5.2⟩:Ay_)))
 else (bif !decide (r3.1=0) then
 ([],0,r3.1,(⟨v.store,r3.2⟩:Ay_))
 else (out,0,0,(⟨x,r3.2⟩:Ay_)))))
 |x1::t,k,out,x=>lt (H_ x x1) λr1=>
 (bif !decide (r1.2.2=0) then
 ([],(k:Int),r1.2.2,v)
 else B5_ v l t (k+1) (out++[r1.2.1]) r1.1)
def C7_(v:Ay_)(l:List G_):(List Aq_)×Int×Int×Ay_:=
 lt (He_ v.log) λr=>
 (bif !r then
 ([],0,21,v)
 else (bif decide (255<(l.length:Int)) then
 ([],0,6,v)
 else B5_ v l l 0 [] v.store))
theorem vall_l0(v:Ay_)(l:List G_):∀ (t:List G_) (k:Nat) (out:List Aq_) (x:D_),(B5_ v l t k out x).2.2.1=0->(B5_ v l t k out x).1.length=out.length+t.length
 |[],k,out,x=>by
   rw[B5_.eq_1];unfold lt
   by_cases h1:(D4_ l).2=0
   . simp only[h1,decide_true,A2,cond_false]
     by_cases h2:(B1_ v.log [(D4_ l).1]).1=17
     . simp only[h2,decide_true,cond_true]
       by_cases h3:(Eg_ (B1_ v.log [(D4_ l).1]).2 (Az_ (S_ x))).1=0
       . simp only[h3,decide_true,A2,cond_false];intro _;rfl
       . simp only[h3,decide_false,AE,cond_true];exact xE
     . by_cases h3:(B1_ v.log [(D4_ l).1]).1=0
       . simp only[h2,h3,decide_true,decide_false,A2,cond_false];intro _;rfl
       . simp only[h2,h3,decide_false,AE,cond_false,cond_true];exact xE
   . exact sP
 |d::t,k,out,x=>by
   rw[B5_.eq_2];unfold lt
   by_cases h1:(H_ x d).2.2=0
   . simp only[h1,decide_true,A2,cond_false]
     intro h
     have :=vall_l0 v l t (k+1) (out++[(H_ x d).2.1]) (H_ x d).1 h
     rw[this];exact sE
   . exact sP
theorem vall_len(v:Ay_)(l:List G_):(C7_ v l).2.2.1≠0\/(C7_ v l).1.length=l.length:=by
 by_cases h:(C7_ v l).2.2.1=0
 . right
   unfold C7_ lt at h ⊢
   cases hr:He_ v.log with
   |false=>rw[hr] at h;simp at h
   |true=>
     rw[hr] at h
     by_cases h2:255<(l.length:Int)
     . simp[h2] at h
     . simp only[h2,decide_false,A2,cond_false] at h ⊢
       have :=vall_l0 v l l 0 [] v.store h
       exact sU
 exact .inl h
theorem vall_one(v:Ay_)(d:G_):(C7_ v [d]).2.2.1≠0\/(C7_ v [d]).1.length=1:=vall_len v [d]
def Et_(v:Ay_)(d:G_):Aq_×Int×Ay_:=
 lt (C7_ v [d]) λr=>
 (bif !decide (r.2.2.1=0) then
 (aT,r.2.2.1,r.2.2.2)
 else ((gt r.1 0),0,r.2.2.2))
def iz:List Z_->Int
 |[]=>0
 |x::l=>D0_ x.Ah_+iz l
def rz:List Go_->Int
 |[]=>0
 |x::l=>iz x.l.items+rz l
def uz(a:A16_RiseR):Nat->Int
 |0=>0
 |n+1=>Cj_ (A16.get a (15-n))+uz a n
theorem lsize_eq0:∀ (t:List Z_) (n:Int),Df_ t n=n+iz t
 |[],n=>by simp[Df_,iz]
 |x::t,n=>by
   unfold Df_ lt
   dsimp only
   rw[lsize_eq0 t]
   simp only[iz];omega
theorem lsize_eq(l:Ax_):F4_ l=iz l.items:=by
 unfold F4_;rw[lsize_eq0];omega
theorem ksize_eq1(s:I_):∀ (f:Nat) (n:Int) (k:Nat),k<=16->k<f->Dq_ s f n (16-k)=n+uz s.rises k
 |0,n,k,_,h=>by omega
 |f+1,n,0,_,_=>by
   unfold Dq_
   simp[uz]
 |f+1,n,k+1,h1,h2=>by
   unfold Dq_ lt
   rw[decide_eq_true (show ((16-(k+1):Nat):Int)<16 by omega),cond_true]
   have :=ksize_eq1 s f (n+Cj_ (A16.get s.rises (16-(k+1)))) k qD qD
   dsimp only
   rw[show 16-(k+1)+1=16-k by omega,this]
   simp only[uz]
   rw[show 16-(k+1)=15-k by omega]
   omega
theorem ksize_eq0(s:I_):∀ (t:List Go_) (n:Int),Cu_ s t n=n+rz t+uz s.rises 16
 |[],n=>by
   unfold Cu_
   have :=ksize_eq1 s (16-0+1) n 16 qD qD
   rw[this];simp[rz]
 |x::t,n=>by
   unfold Cu_ lt
   dsimp only
   rw[ksize_eq0 s t,lsize_eq]
   simp only[rz];omega
theorem ksize_eq(s:I_):Dk_ s=rz s.rows+uz s.rises 16:=by
 unfold Dk_;rw[ksize_eq0];omega
theorem uz_far(a:A16_RiseR)(v:Al_)(m:Nat)(hm:m<16):∀ k,k<=16->k<16-m->uz (A16.set a v m) k=uz a k
 |0,_,_=>rfl
 |k+1,h1,h2=>by
   simp only[uz]
   rw[uz_far a v m hm k qD qD,A16.get_set _ _ _ _ hm qD,if_neg qD]
theorem uz_set(a:A16_RiseR)(v:Al_)(m:Nat)(hm:m<16):∀ k,k<=16->16-m<=k->uz (A16.set a v m) k=uz a k-Cj_ (A16.get a m)+Cj_ v
 |0,_,h=>by omega
 |k+1,h1,h2=>by
   simp only[uz]
   rw[A16.get_set _ _ _ _ hm qD]
   by_cases q:15-k=m
   . subst q
     rw[if_pos rfl,uz_far a v (15-k) hm k qD qD];omega
   . rw[if_neg q,uz_set a v m hm k qD qD];omega
theorem Zs_:∀ a b:List Z_,iz (a++b)=iz a+iz b
 |[],b=>by simp[iz]
 |x::a,b=>by simp only[D0,iz,Zs_ a b];omega
theorem rz_app:∀ a b:List Go_,rz (a++b)=rz a+rz b
 |[],b=>by simp[rz]
 |x::a,b=>by simp only[D0,rz,rz_app a b];omega
theorem iz_nn:∀ l:List Z_,0<=iz l
 |[]=>BX _
 |x::l=>by
   have :=iz_nn l
   have :=(Yn_ x.Ah_).1
   simp only[iz];omega
theorem rz_set:∀ (l:List Go_) (k:Nat) (x:Go_),k<l.length->rz (l.set k x)=rz l-iz (gt l k).l.items+iz x.l.items
 |[],k,x,h=>by cases h
 |y::l,0,x,h=>by
   have e:gt (y::l) 0=y:=rfl
   simp only[FQ,rz,e];omega
 |y::l,k+1,x,h=>by
   have :=rz_set l k x pD
   have e:gt (y::l) (k+1)=gt l k:=by simp[gt]
   simp only[FR,rz,e];omega
theorem rz_cut(l:List Go_)(k:Nat):rz (l.take k++l.drop (k+1))<=rz l:=by
 conv=>rhs;rw[<- B6 k l]
 rw[rz_app,rz_app]
 cases e:l.drop k with
 |nil=>
   have :l.drop (k+1)=[]:=by
     rw[FA] at e ⊢;omega
   rw[this];omega
 |cons x t=>
   have :l.drop (k+1)=t:=by
     exact yI
   rw[this]
   have :=iz_nn x.l.items
   simp only[rz];omega
theorem iz_set:∀ (l:List Z_) (k:Nat) (x:Z_),x.Ah_=(gt l k).Ah_->iz (l.set k x)=iz l
 |[],k,x,_=>rfl
 |y::l,0,x,h=>by
   have e:gt (y::l) 0=y:=rfl
   rw[e] at h
   simp only[FQ,iz,h]
 |y::l,k+1,x,h=>by
   have e:gt (y::l) (k+1)=gt l k:=by simp[gt]
   rw[e] at h
   simp only[FR,iz,iz_set l k x h]
theorem iz_cut{l:List Z_}{k:Nat}:iz (l.take k++l.drop (k+1))<=iz l:=by
 conv=>rhs;rw[<- B6 k l]
 rw[Zs_,Zs_]
 cases e:l.drop k with
 |nil=>
   have :l.drop (k+1)=[]:=by
     rw[FA] at e ⊢;omega
   rw[this];omega
 |cons x t=>
   have :l.drop (k+1)=t:=by
     exact yI
   rw[this]
   have :=(Yn_ x.Ah_).1
   simp only[iz];omega
theorem llend_iz{l:Ax_}:iz (E8_ l).1.items=iz l.items:=by
 unfold E8_ lt;let Q:Ax_×Z_×Bool->Prop:=λr=>iz r.1.items=iz l.items;exact bt (P:=Q) (λ_=>rfl) λ_=>iz_set _ _ _ Z
theorem lrem_iz{l:Ax_}{id:Int}:iz (Be_ l id).1.items<=iz l.items:=by
 unfold Be_ lt;let Q:Ax_×Z_×Int->Prop:=λr=>iz r.1.items<=iz l.items;refine bt (P:=Q) (λ_=>BX _) λe=>?_;simp only[decide_eq_false_iff_not] at e;have :(Bo_ l id+1).toNat=(Bo_ l id).toNat+1:=by omega
 show iz ([(l.items.take (Bo_ l id).toNat),(l.items.drop (Bo_ l id+1).toNat)].flatten)<=_;rw[this];simp only[AP,AU,AJ];exact iz_cut
def KOk(b:Int)(k:I_):Prop:=k.bytes=b/\rz k.rows+uz k.rises 16<=b
theorem rz_set_le(l:List Go_)(k:Nat)(x:Go_)(h:iz x.l.items<=iz (gt l k).l.items):rz (l.set k x)<=rz l:=by
 by_cases q:k<l.length;rw[rz_set l k x q];omega;rw[C6 qD];exact BX _
theorem kwith_k{b:Int}{s:I_}{k:Int}{l:Ax_}(h:KOk b s)(hl:iz l.items<=iz (gt s.rows k.toNat).l.items):KOk b (Ak_ s k l):=by
 refine⟨h.1,?_⟩;have :=h.2;have :=rz_set_le s.rows k.toNat ⟨(gt s.rows k.toNat).q,l⟩ hl;show rz (s.rows.set _ _)+uz s.rises 16<=b;omega
theorem kmake_k{b:Int}{s:I_}{q:M_}(h:KOk b s):KOk b (Bb_ s q).1:=by
 unfold Bb_ lt;let Q:I_×Int->Prop:=λr=>KOk b r.1;refine bt (P:=Q) (λ_=>h) λ_=>bt (P:=Q) (λ_=>h) λ_=>bt (P:=Q) (λ_=>h) λ_=>bt (P:=Q) (λ_=>h) λ_=>⟨h.1,?_⟩;show rz ([s.rows,[⟨q,⟨[]⟩⟩]].flatten)+_<=b;simp only[AP,AU,AJ,rz_app,rz,iz];have :=h.2;show _+uz s.rises 16<=b;omega
theorem kdrop_k{b:Int}{s:I_}{n:Bs}(h:KOk b s):KOk b (Bz_ s n).1:=by
 unfold Bz_ lt;let Q:I_×Int->Prop:=λr=>KOk b r.1;refine bt (P:=Q) (λ_=>h) λe=>⟨h.1,?_⟩;simp only[decide_eq_false_iff_not] at e;have e1:(O_ s n+1).toNat=(O_ s n).toNat+1:=by omega
 show rz ([(s.rows.take (O_ s n).toNat),(s.rows.drop (O_ s n+1).toNat)].flatten)+uz s.rises 16<=b;rw[e1];simp only[AP,AU,AJ];have :=rz_cut s.rows (O_ s n).toNat;have :=h.2;omega
theorem klend_k{b:Int}{s:I_}{n:Bs}(h:KOk b s):KOk b (Dj_ s n).1:=by
 unfold Dj_ lt;let Q:I_×Z_×Bool->Prop:=λr=>KOk b r.1;exact bt (P:=Q) (λ_=>h) λ_=>kwith_k h (GV llend_iz)
theorem krem_k{b:Int}{s:I_}{n:Bs}{id:Int}(h:KOk b s):KOk b (Ba_ s n id).1:=by
 unfold Ba_ lt;let Q:I_×Z_×Int->Prop:=λr=>KOk b r.1;exact bt (P:=Q) (λ_=>h) λ_=>kwith_k h lrem_iz
theorem iz_set2{l:List Z_}{k:Nat}{a b c d:Bool}:iz ((l.set k ⟨(gt l k).Ah_,a,b⟩).set k ⟨(gt (l.set k ⟨(gt l k).Ah_,a,b⟩) k).Ah_,c,d⟩)=iz l:=
 (iz_set (l.set k ⟨(gt l k).Ah_,a,b⟩) k ⟨(gt (l.set k ⟨(gt l k).Ah_,a,b⟩) k).Ah_,c,d⟩ Z).trans (iz_set l k ⟨(gt l k).Ah_,a,b⟩ Z)
theorem lback_iz{l:Ax_}{id:Int}:iz (F3_ l id).1.items=iz l.items:=by
 unfold F3_ lt;let Q:Ax_×Int->Prop:=λr=>iz r.1.items=iz l.items;exact bt (P:=Q) (λ_=>rfl) λ_=>bt (P:=Q) (λ_=>rfl) λ_=>iz_set2
theorem X2_:∀ (t:List Z_) (k:Nat) (x:Ax_),iz (Dg_ t k x).items=iz x.items
 |[],k,x=>rfl
 |y::t,k,x=>by
   unfold Dg_
   let Q:Ax_->Prop:=λr=>iz r.items=iz x.items
   exact bt (P:=Q) (λ_=>(X2_ t _ _).trans iz_set2) λ_=>X2_ t _ _
theorem lwake_iz(l:Ax_):iz (Fs_ l).items=iz l.items:=X2_ _ _ _
theorem kback_k{b:Int}{s:I_}{n:Bs}{id:Int}(h:KOk b s):KOk b (Dx_ s n id).1:=by
 unfold Dx_ lt;let Q:I_×Int->Prop:=λr=>KOk b r.1;exact bt (P:=Q) (λ_=>h) λ_=>kwith_k h (GV lback_iz)
theorem kraise_k{b:Int}{s:I_}{p:Int}{m:Mail}(h:KOk b s):KOk b (Cp_ s p m).1:=by
 unfold Cp_ lt;let Q:I_×Int->Prop:=λr=>KOk b r.1;refine bt (P:=Q) (λ_=>h) λe1=>?_;simp only[AO,decide_eq_false_iff_not] at e1;refine bt (P:=Q) (λ_=>h) λ_=>bt (P:=Q) (λ_=>h) λe=>⟨h.1,?_⟩;simp only[decide_eq_false_iff_not] at e;rw[ksize_eq] at e;have h1:=h.1;show rz s.rows+uz (A16.set s.rises _ p.toNat) 16<=b;rw[uz_set _ _ _ qD 16 qD qD];omega
theorem kwake_k0{b:Int}:∀ (t:List Go_) (k:Nat) (x:I_),KOk b x->(∀ i,i<t.length->gt x.rows (k+i)=gt t i)->KOk b (Cv_ t k x)
 |[],k,x,h,_=>h
 |y::t,k,x,h,hr=>by
   unfold Cv_ lt
   have h0:gt x.rows k=y:=hr 0 qI
   refine kwake_k0 t (k+1) _ (kwith_k h (by rw[lwake_iz];rw[AI,h0];exact BX _)) λi hi=>?_
   show gt (x.rows.set ((k:Int)).toNat _) (k+1+i)=_
   rw[AI]
   have :gt (x.rows.set k ⟨(gt x.rows k).q,Fs_ y.l⟩) (k+1+i)=gt x.rows (k+1+i):=by
     simp only[gt,AS]
     rw[FB qD]
   rw[this,show k+1+i=k+(i+1) by omega,hr (i+1) qQ]
   simp[gt]
theorem kwake_k{b:Int}{s:I_}(h:KOk b s):KOk b (Fx_ s):=kwake_k0 s.rows 0 s h λi _=>by rw[BD]
theorem lrem_eq{l:Ax_}(h:LnOk l){k:Nat}(hk:k<l.items.length):iz (Be_ l (gt l.items k).Ah_.id).1.items+D0_ (gt l.items k).Ah_=iz l.items:=by
 unfold Be_ lt;dsimp only;rw[lof_self h hk];have e:decide ((k:Int)<0)=false:=by simp
 rw[e,cond_false];show iz ([(l.items.take ((k:Int)).toNat),(l.items.drop ((k:Int)+1).toNat)].flatten)+_=_;rw[show ((k:Int)+1).toNat=k+1 by omega,AI];simp only[AP,AU,AJ]
 conv=>rhs;rw[<- B6 k l.items]
 rw[Zs_,Zs_];have e2:l.items.drop k=gt l.items k::l.items.drop (k+1):=by
   rw[List.drop_eq_getElem_cons hk]
   simp[gt,hk]
 rw[e2];simp only[iz];omega
theorem ladd_iz{l:Ax_}{m:Mail}(e:(C9_ l m).2=0):iz (C9_ l m).1.items=iz l.items+D0_ m:=by
 revert e
 unfold C9_ F7_ lt;dsimp only;let Q:Ax_×Int->Prop:=λr=>r.2=0->iz r.1.items=iz l.items+D0_ m;refine bt (P:=Q) (λe h=>?_) λ_ _=>?_;exact tV;show iz ([l.items,[Ck_ ⟨m,false,false⟩]].flatten)=_;simp only[AP,AU,AJ,Zs_,iz];rw[show (Ck_ ⟨m,false,false⟩).Ah_=m from rfl];omega
theorem zsize:D0_ ⟨0,[],[],[],[],0,0⟩=0:=by decide +kernel
theorem kput_k{b:Int}{s:I_}{n:Bs}{m:Mail}(hs:StkOk s)(h:KOk b s):KOk b (B4_ s n m).1:=by
 unfold B4_ lt;let Q:I_×Int×Mail×Int->Prop:=λr=>KOk b r.1;refine bt (P:=Q) (λ_=>h) λe=>bt (P:=Q) (λ_=>h) λ_=>bt (P:=Q) (λ_=>h) λ_=>?_;simp only[decide_eq_false_iff_not] at e;have hb:=at_b s n;obtain⟨k,hk⟩:∃ k:Nat,O_ s n=k:=⟨_,(Int.toNat_of_nonneg qD).symm⟩;rw[hk] at hb ⊢;simp only[AI];have hl:LnOk (gt s.rows k).l:=RwsOk.at hs.1 (getG qD);refine lp2E (P:=Q) (λq=>iz q.1.items+D0_ q.2=iz (gt s.rows k).l.items) ?_ λx x1 hx=>?_;refine bt (P:=LoP _ _) (λ_=>?_) λ_=>by show iz (gt s.rows k).l.items+D0_ ⟨0,[],[],[],[],0,0⟩=_;rw[zsize];omega
 refine bt (P:=LoP _ _) (λ_=>h) λe2=>?_;have⟨j,hj,he⟩:=lfirst_at (l:=(gt s.rows k).l) (by simpa using e2);show iz _+D0_ _=_;rw[he];exact lrem_eq hl hj;refine bt (P:=Q) (λ_=>h) λe3=>bt (P:=Q) (λ_=>h) λe4=>⟨h.1,?_⟩;simp only[decide_eq_false_iff_not] at e3;have e4':(C9_ x ⟨s.next,m.Bm_,m.key,m.head,m.body,m.due,m.hops⟩).2=0:=by simpa using e4
 have h4:=ladd_iz e4';unfold Ek_ at e3;rw[ksize_eq] at e3;have h1:=h.1;have hx':iz x.items+D0_ x1=iz (gt s.rows k).l.items:=hx;show rz (s.rows.set ((k:Int)).toNat _)+uz s.rises 16<=b;rw[AI,rz_set _ _ _ qD];dsimp only;omega
structure Hk(s0 s:D_):Prop where
 po:s.U_=s0.U_
 pl:s.place=s0.place
 se:s.x.seen=s0.x.seen
 k:KOk s0.x.E_.bytes s.x.E_
variable{s0 s:D_}
theorem Hk.E_(h:Hk s0 s){k:I_}(hk:KOk s0.x.E_.bytes k):Hk s0 ⟨⟨s.x.book,k,s.x.notes,s.x.seen,s.x.spent⟩,s.U_,s.place⟩:=⟨h.po,h.pl,h.se,hk⟩
theorem Hk.note(h:Hk s0 s)(t k:Int)(x:Bs):Hk s0 (C4_ s t k x):=⟨h.po,h.pl,h.se,h.k⟩
theorem Hk.spend(h:Hk s0 s)(to' t:Int):Hk s0 (Es_ s to' t).1:=by
 unfold Es_ lt;let Q:D_×Int->Prop:=λr=>Hk s0 r.1;exact bt (P:=Q) (λ_=>h) λ_=>lt1E (P:=Q) (λ_=>True) U λx _=>bt (P:=Q) (λ_=>h) λ_=>⟨h.po,h.pl,h.se,h.k⟩
section
variable{m:Mail}{tick:Int}{r:List Bs×List Bs×Int}
theorem send1_h{gone:List H1_}(hs:Hk s0 s):∀ (t:List Bs) (n:Int) (x:D_),Hk s0 x->Hk s0 (Ce_ s m tick r gone t n x).1
 |[],n,x,hx=>hx
 |q::t,n,x,hx=>by
   unfold Ce_ lt
   let Q:D_×List H1_×Int×Int->Prop:=λr=>Hk s0 r.1
   refine lp1E (P:=Q) (Hk s0) ?_ λy hy=>?_
   . refine bt (P:=LoP _ _) (λ_=>?_) λ_=>hx
     exact bt (P:=LoP _ _) (λ_=>hs) λ_=>hx.spend _ _
   . exact bt (P:=Q) (λ_=>hs) λ_=>send1_h hs t _ _ (hy.E_ (kraise_k hy.k))
theorem send0_h(hs:Hk s0 s)(h0:0<=m.hops):∀ (t:List Bs) (gone:List H1_) (n:Int) (x:D_),StOk x->Hk s0 x->Hk s0 (A1_ s m tick r t gone n x).1
 |[],gone,n,x,_,hx=>by
   unfold A1_
   exact send1_h hs _ _ _ hx
 |q::t,gone,n,x,ho,hx=>by
   unfold A1_ lt
   let Q:D_×List H1_×Int×Int->Prop:=λr=>Hk s0 r.1
   refine bt (P:=Q) (λ_=>send0_h hs h0 t _ _ x ho hx) λ_=>?_
   generalize K4_ m.due tick (Av_ x.x.E_ q).1.life=due
   have hp:=(kput_ok (s:=x.x.E_) (n:=q) (m:=⟨0,m.Bm_,m.key,m.head,m.body,due,m.hops⟩) ho.stk h0).1
   have hk:=kput_k (n:=q) (m:=⟨0,m.Bm_,m.key,m.head,m.body,due,m.hops⟩) ho.stk hx.k
   refine bt (P:=Q) (λ_=>hs) λ_=>?_
   exact bt (P:=Q) (λ_=>send0_h hs h0 t _ _ _ (Cl_ ho hp) (hx.E_ hk)) λ_=>send0_h hs h0 t _ _ _ (Cl_ ho hp) (hx.E_ hk)
theorem send_h(ho:StOk s)(hs:Hk s0 s)(h0:0<=m.hops):Hk s0 (An_ s m tick).1:=by
 unfold An_ lt;let Q:D_×List H1_×Int×Int->Prop:=λr=>Hk s0 r.1;exact bt (P:=Q) (λ_=>hs) λ_=>send0_h hs h0 _ _ _ _ ho hs
end
theorem bury_h0(tick:Int):∀ (f:Nat) (gone:List H1_) (lost:Int) (x:D_),Vh_ gone lost x->wtk x.x.E_+wto gone<f->Hk s0 x->Hk s0 (Cy_ tick f gone lost x).1
 |0,_,_,_,_,h,_=>by omega
 |f+1,gone,lost,x,hI,hf,hx=>by
   unfold Cy_ lt
   let Q:D_×Int->Prop:=λr=>Hk s0 r.1
   refine bt (P:=Q) (λe=>?_) λ_=>hx
   have hn:0<gone.length:=by simpa using e
   refine bt (P:=Q) (λ_=>bury_h0 tick f _ _ _ (Ub_ hI hn) (Wd_ hn hf) hx) λ_=>?_
   have hm:MlOk (gt gone 0).Ah_:=hI.2.1 _ (I2_ hn)
   refine bt (P:=Q) (λ_=>?_) λe4=>?_
   . have h:=Lg_ (s:=x) (t:=tick) (k:=1) (x:=(gt gone 0).queue) hI.1
     exact bury_h0 tick f _ _ _ (Uc_ hI h.1 h.2 hn) (Zg_ h.2 hn hf) (hx.note _ _ _)
   . simp only[AO,decide_eq_false_iff_not,AN,decide_eq_true_eq] at e4
     have hs:=Ma_ (s:=x) (m:=⟨(K_ (gt gone 0).Ah_).id,(Av_ x.x.E_ (gt gone 0).queue).1.dead,(K_ (gt gone 0).Ah_).key,(K_ (gt gone 0).Ah_).head,(K_ (gt gone 0).Ah_).body,0,A0 .u8 ((K_ (gt gone 0).Ah_).hops+1)⟩) (tick:=tick) hI.1 Lk_
     exact bury_h0 tick f _ _ _ (Ud_ hI hs.1 hs.2.1 hn Z hm e4.1 hs.2.2 Z e4.2) (We_ hn hf Z hm e4.1 hs.2.2 Z e4.2) (send_h hI.1 hx Lk_)
theorem bury_h{gone:List H1_}{tick:Int}(h:StOk s)(hg:gone.length<=600/\∀ g∈gone,MlOk g.Ah_)(hs:Hk s0 s):Hk s0 (Cx_ s gone tick).1:=
 bury_h0 tick _ gone 0 s (buryI0 h hg) (CI _) hs
section
variable{d:G_}
theorem settle_h(h:StOk s)(hs:Hk s0 s):Hk s0 (Ez_ s d).1:=by
 unfold Ez_ lt;let Q:D_×Aq_×Int->Prop:=λr=>Hk s0 r.1;refine bt (P:=Q) (λ_=>hs) λ_=>bt (P:=Q) (λ_=>hs.E_ (kback_k hs.k)) λ_=>have hr:=Kl_ (n:=d.name) (id:=d.id) h.stk;bt (P:=Q) (λ_=>bury_h (Cl_ h hr.1) ⟨by simp,λg hg=>?_⟩ (hs.E_ (krem_k hs.k))) λ_=>hs.E_ (krem_k hs.k);exact tA
theorem late_h0{t:Int}:∀ (f:Nat) (gone:List H1_) (x:D_),StOk x->(∀ g∈gone,MlOk g.Ah_)->gone.length+nik x.x.E_<=512->nik x.x.E_<f->Hk s0 x->Hk s0 (Dr_ t f gone x).1
 |0,_,_,_,_,_,h,_=>by omega
 |f+1,gone,x,h,hg,hl,hf,hs=>by
   unfold Dr_ lt
   let Q:D_×Aq_->Prop:=λr=>Hk s0 r.1
   refine bt (P:=Q) (λ_=>bury_h h ⟨by omega,hg⟩ hs) λe=>?_
   have e':(Bf_ x.x.E_ t).2.2=true:=by simpa using e
   have hr:=Kl_ (n:=(Bf_ x.x.E_ t).1) (id:=(Bf_ x.x.E_ t).2.1.id) h.stk
   refine late_h0 f _ _ (Cl_ h hr.1) (λg q=>?_) (late_in h.stk Z e' Z hl) (late_mu h.stk Z e' Z hf) (hs.E_ (krem_k hs.k))
   rcases List.mem_append.1 q with q|q
   . exact hg g q
   . exact tB
theorem late_h{t:Int}(h:StOk s)(hs:Hk s0 s):Hk s0 (Gf_ s t).1:=
 late_h0 _ [] s h (λ_ h=>by cases h) oL (CI _) hs
theorem put_h(h:StOk s)(h0:0<=d.Ah_.hops)(hs:Hk s0 s):Hk s0 (F8_ s d).1:=by
 unfold F8_ lt;let Q:D_×Aq_×Int->Prop:=λr=>Hk s0 r.1;have h1:=Ma_ (s:=s) (m:=K_ d.Ah_) (tick:=d.tick) h h0;have hl:=Mr_ (s:=s) (m:=K_ d.Ah_) (tick:=d.tick) h;exact bt (P:=Q) (λ_=>hs) λ_=>bury_h h1.1 ⟨by omega,h1.2.1⟩ (send_h h hs h0)
theorem queues_h(hs:Hk s0 s):Hk s0 (Bh_ s d).1:=by
 unfold Bh_ lt;let Q:D_×Int->Prop:=λr=>Hk s0 r.1;exact bt (P:=Q) (λ_=>hs.E_ (kmake_k hs.k)) λ_=>bt (P:=Q) (λ_=>⟨hs.po,hs.pl,hs.se,kdrop_k hs.k⟩) λ_=>hs.E_ (kdrop_k hs.k)
theorem lend_h(hs:Hk s0 s):Hk s0 (Fa_ s d).1:=by
 unfold Fa_ lt;let Q:D_×Aq_×Int->Prop:=λr=>Hk s0 r.1;exact bt (P:=Q) (λ_=>hs) λ_=>bt (P:=Q) (λ_=>hs) λ_=>hs.E_ (klend_k hs.k)
theorem shops_h(hs:Hk s0 s):Hk s0 (Bc_ s d).1:=by
 unfold Bc_ lt;let Q:D_×Int->Prop:=λr=>Hk s0 r.1;have hn:∀ e,Q (s,e):=λe=>hs;have hb:∀ b e,Q (⟨⟨b,s.x.E_,s.x.notes,s.x.seen,s.x.spent⟩,s.U_,s.place⟩,e):=λb e=>⟨hs.po,hs.pl,hs.se,hs.k⟩;refine bt (P:=Q) (λ_=>?_) λ_=>?_;refine lp0E (P:=Q) (λ_=>True) ?_ λ_=>hb _ _;refine bt (P:=LoP _ _) (λ_=>?_) λ_=>trivial;exact xL;refine bt (P:=Q) (λ_=>hb _ _) λ_=>bt (P:=Q) (λ_=>hb _ _) λ_=>lp0E (P:=Q) (λ_=>True) ?_ λ_=>hb _ _;exact qB
end
end Go.SW.V
namespace Go.SW.V
open Go.SW
def seenS(s:D_)(d:G_):D_:=⟨⟨s.x.book,s.x.E_,s.x.notes,A16.set s.x.seen d.number d.frm.toNat,s.x.spent⟩,s.U_,s.place⟩
def PlA(s:D_)(d:G_):Prop:=d.frm<s.U_.places.length/\(Ed_ s.U_ d.frm s.place=true\/0<=Au_ s.U_ d.frm s.place)
def PlP(s:D_)(d:G_)(r:D_×Aq_×Int):Prop:=(r.2.2≠0/\r.1=s)\/(r.2.2=0/\PlA s d/\A16.get s.x.seen d.frm.toNat<d.number/\Hk (seenS s d) r.1)
variable{s:D_}{d:G_}
theorem pull_h(h:StOk s)(hk:KOk s.x.E_.bytes s.x.E_):PlP s d (Fb_ s d):=by
 unfold Fb_ lt;refine bt (P:=PlP s d) (λ_=> .inl ⟨(by decide :(10:Int)≠0),rfl⟩) λe1=>bt (P:=PlP s d) (λ_=> .inl ⟨(by decide :(11:Int)≠0),rfl⟩) λe2=>bt (P:=PlP s d) (λ_=> .inl ⟨(by decide :(13:Int)≠0),rfl⟩) λe3=>?_;simp only[decide_eq_false_iff_not] at e1 e3;have hA:PlA s d:=by
   refine⟨by omega,?_⟩
   simp only[D8,AN,decide_eq_false_iff_not] at e2
   rcases e2 with q|q
   . exact .inl q
   . exact .inr qD
 let Q:D_×Aq_×Int->Prop:=λr=>r.2.2=0/\Hk (seenS s d) r.1;have hQ:∀ r,Q r->PlP s d r:=λr q=> .inr ⟨q.1,hA,by omega,q.2⟩;refine hQ _ ?_;let I:D_->Prop:=λx=>StOk x/\Hk (seenS s d) x;refine lt1E (P:=Q) I ?_ λx hx=>?_;exact bt (P:=I) (λ_=>⟨(Lg_ (Ea_ h)).1,⟨rfl,rfl,rfl,hk⟩⟩) λ_=>⟨Ea_ h,⟨rfl,rfl,rfl,hk⟩⟩;exact bt (P:=Q) (λ_=>⟨rfl,hx.2.note _ _ _⟩) λ_=>have h1:=Ma_ (s:=x) (m:=⟨(K_ d.Ah_).id,(K_ d.Ah_).Bm_,(K_ d.Ah_).key,(K_ d.Ah_).head,(K_ d.Ah_).body,(K_ d.Ah_).due,A0 .u8 ((K_ d.Ah_).hops+1)⟩) (tick:=d.tick) hx.1 Lk_;have hl:=Mr_ (s:=x) (m:=⟨(K_ d.Ah_).id,(K_ d.Ah_).Bm_,(K_ d.Ah_).key,(K_ d.Ah_).head,(K_ d.Ah_).body,(K_ d.Ah_).due,A0 .u8 ((K_ d.Ah_).hops+1)⟩) (tick:=d.tick) hx.1;⟨rfl,bury_h h1.1 ⟨by omega,h1.2.1⟩ (send_h hx.1 hx.2 Lk_)⟩
def DoP(s:D_)(d:G_)(e:Int)(x:D_):Prop:=e=0->(d.kind≠10/\Hk s x)\/(d.kind=10/\PlA s d/\A16.get s.x.seen d.frm.toNat<d.number/\Hk (seenS s d) x)
theorem do_h(h:StOk s)(h0:0<=d.Ah_.hops)(hk:KOk s.x.E_.bytes s.x.E_):((H_ s d).2.2≠0->(H_ s d).1=s)/\DoP s d (H_ s d).2.2 (H_ s d).1:=by
 have hs:Hk s s:=⟨rfl,rfl,rfl,hk⟩;unfold H_ lt;let Q:D_×Aq_×Int->Prop:=λr=>(r.2.2≠0->r.1=s)/\DoP s d r.2.2 r.1;refine bt (P:=Q) (λe=>⟨λ_=>rfl,λq=>?_⟩) λ_=>?_;exact tW;let I:Int×D_×Aq_->Prop:=λr=>DoP s d r.1 r.2.1;refine lt3E (P:=Q) I ?_ λa b c hb=>bt (P:=Q) (λe=>⟨λ_=>rfl,λq=>?_⟩) λe=>⟨λq=>(q Z).elim,λ_=>?_⟩;have hn:∀ {e:Int} {x:D_} {r:Aq_},d.kind≠10->Hk s x->I (e,x,r):=λh1 h2 _=> .inl ⟨h1,h2⟩;refine lt1E (P:=I) (λv:Bool=>v=true->d.kind≠10) ?_ λv hv=>?_;refine bt (P:=λv:Bool=>v=true->d.kind≠10) (λe q=>?_) λe q=>?_;simp only[decide_eq_true_eq] at e;omega;simp only[decide_eq_true_eq] at q;omega;refine bt (P:=I) (λe=>hn (hv e) (queues_h hs)) λ_=>bt (P:=I) (λe=>hn pZ (put_h h h0 hs)) λ_=>bt (P:=I) (λe=>hn pZ (lend_h hs)) λ_=>bt (P:=I) (λe=>hn pZ (settle_h h hs)) λ_=>bt (P:=I) (λe=>hn pZ (late_h h hs)) λ_=>bt (P:=I) (λe=>?_) λe10=>?_
 . simp only[decide_eq_true_eq] at e
   have hp:=pull_h (d:=d) h hk
   intro q
   rcases hp with hp|hp
   exact (hp.1 q).elim
   exact .inr ⟨e,hp.2⟩
 simp only[decide_eq_false_iff_not] at e10;exact bt (P:=I) (λ_=>hn e10 ((hs.E_ (kwake_k hs.k)).note _ _ _)) λ_=>bt (P:=I) (λ_=>hn e10 ⟨rfl,rfl,rfl,hk⟩) λ_=>hn e10 (shops_h hs);exact tW;simp only[AN,decide_eq_true_eq] at e;exact hb e
def LgI(l:C5_):Prop:=DkI l.d/\l.d.waits=[]/\l.ready=true/\l.broken=false/\(l.A4_=0\/l.A4_=1)/\l.done.length<=3776/\l.waits.length<=3776
def StI(p:F_)(r:Int)(s:D_):Prop:=StOk s/\StB s/\s.U_=p/\s.place=r/\KOk s.x.E_.bytes s.x.E_/\s.x.E_.bytes<=65536
def VI(p:F_)(r:Int)(v:Ay_):Prop:=StI p r v.store/\LgI v.log
theorem doI{p:F_}{r:Int}{s:D_}{d:G_}(h:StI p r s)(hd:DdG d):StI p r (H_ s d).1:=by
 have⟨h1,h2,h3,h4,h5,h6⟩:=h;have⟨d1,d2,d3,d4,d5,d6⟩:=hd;have :=doPl ⟨d2,d3⟩ h1 d4 h2;have hk:KOk s.x.E_.bytes (H_ s d).1.x.E_:=by
   have q:=do_h (d:=d) h1 d4 h5
   by_cases e:(H_ s d).2.2=0
   . rcases q.2 e with ⟨_,g⟩|⟨_,_,_,g⟩
     . exact g.k
     . exact g.k
   . rw[q.1 e];exact h5
 exact⟨Uh_ h1 d1 d4,doB ⟨d2,d3⟩ h1 d4 d5 d6 h2,by rw[this.1];exact h3,by rw[this.2];exact h4,by rw[hk.1];exact hk,by rw[hk.1];exact h6⟩
def NtF(n:B8_):Prop:=(0<=n.total/\n.total<=18446744073709551615)/\(n.kept.length:Int)=min n.total 32/\∀ x∈n.kept,(0<=x.tick/\x.tick<=18446744073709551615)/\(0<=x.kind/\x.kind<=255)/\x.text.length<=64
theorem Z1_(r1:Int×In)(r:Bs)(h32:r1.1<=32):∀ (t:List Eb_) (f:Nat) (k total:Int) (kept:List Eb_),k+t.length=r1.1->0<=k->t.length<f->(∀ x∈t,(0<=x.tick/\x.tick<=18446744073709551615)/\(0<=x.kind/\x.kind<=255)/\x.text.length<=64)->Fw_ r1 f k total kept ⟨t.flatMap Rc_++r,0⟩=(⟨total,kept++t⟩,⟨r,0⟩)
 |_,0,_,_,_,_,_,h,_=>by omega
 |[],f+1,k,total,kept,hk,h0,hf,_=>by
   rw[Fw_]
   exact sH
 |x::t,f+1,k,total,kept,hk,h0,hf,hx=>by
   have⟨h1,h2,h3⟩:=hx x qI
   simp only[A3] at hk hf
   rw[Fw_]
   have e:decide (k<r1.1)=true:=decide_eq_true qD
   have e1:R_ ⟨(x::t).flatMap Rc_++r,0⟩ 8=(x.tick,⟨numB 1 x.kind.toNat++(txtB x.text++(t.flatMap Rc_++r)),0⟩):=by
     rw[B9,Rc_]
     exact sC
   have e2:R_ ⟨numB 1 x.kind.toNat++(txtB x.text++(t.flatMap Rc_++r)),0⟩ 1=(x.kind,⟨txtB x.text++(t.flatMap Rc_++r),0⟩):=Jj_ h2.1 qD
   have e3:V_ ⟨txtB x.text++(t.flatMap Rc_++r),0⟩ 64=(x.text,⟨t.flatMap Rc_++r,0⟩):=Qv_ qD qD
   rw[e]
   simp only[decide_true,BU,cond_true]
   rw[lt,e1,lt,e2,lt,e3]
   rw[Z1_ r1 r h32 t f _ total (kept++[(⟨x.tick,x.kind,x.text⟩:Eb_)]) pU pU qD (λy hy=>hx y pA)]
   simp
theorem nread_fwd{n:B8_}(h:NtF n)(r:Bs):Ds_ ⟨K8_ n++r,0⟩=(n,⟨r,0⟩):=by
 have⟨h1,h2,h3⟩:=h;unfold Ds_;have e1:R_ ⟨K8_ n++r,0⟩ 8=(n.total,⟨numB 1 n.kept.length++(n.kept.flatMap Rc_++r),0⟩):=by
   rw[K8_]
   exact sC
 have e2:R_ ⟨numB 1 n.kept.length++(n.kept.flatMap Rc_++r),0⟩ 1=((n.kept.length:Int),⟨n.kept.flatMap Rc_++r,0⟩):=I7_ qD;rw[lt,e1,lt,e2,lt1];dsimp only;have d1:decide ((32:Int)<(n.kept.length:Int))=false:=decide_eq_false qD;have d2:decide ((n.kept.length:Int)=min n.total 32)=true:=decide_eq_true h2;rw[d1,d2];simp only[decide_true,A2,cond_false];rw[Z1_ _ r qD n.kept _ 0 n.total [] qD qD qD h3];simp
def MlF(m:Mail):Prop:=m.wf/\(∀ p∈m.head,p.wf)/\Hs_ m=0
def RiF(x:Al_):Prop:=(0<=x.total/\x.total<=18446744073709551615)/\(x.kept.length:Int)=min x.total 16/\∀ m∈x.kept,MlF m
theorem rb_eq0:∀ (t:List Mail) (o:Out),Cb_ t o=o.s++t.flatMap B0_
 |[],o=>by simp[Cb_]
 |y::t,o=>by
   rw[Cb_,rb_eq0 t]
   simp[Af_]
theorem rb_eq(x:Al_):Bu_ x=numB 8 x.total.toNat++(numB 1 x.kept.length++x.kept.flatMap B0_):=by
 unfold Bu_;rw[rb_eq0,Gh_,Jp_];simp
theorem mail_fwd{m:Mail}{r:Bs}(h:MlF m):De_ ⟨B0_ m++r,0⟩=(m,⟨r,0⟩):=by
 rw[show B0_ m=mailB m from X4_ h.2.2 (λp hp=>(h.2.1 p hp).1.1)];exact P6_ h.1 h.2.1 h.2.2
theorem rread_fwd0(r1:Int×In)(r:Bs)(h32:r1.1<=16):∀ (t:List Mail) (f:Nat) (k total:Int) (kept:List Mail),k+t.length=r1.1->0<=k->t.length<f->(∀ m∈t,MlF m)->Hx_ r1 f k total kept ⟨t.flatMap B0_++r,0⟩=(⟨total,kept++t⟩,⟨r,0⟩)
 |_,0,_,_,_,_,_,h,_=>by omega
 |[],f+1,k,total,kept,hk,h0,hf,_=>by
   rw[Hx_]
   exact sH
 |x::t,f+1,k,total,kept,hk,h0,hf,hx=>by
   simp only[A3] at hk hf
   rw[Hx_]
   have e:decide (k<r1.1)=true:=decide_eq_true qD
   have e1:De_ ⟨(x::t).flatMap B0_++r,0⟩=(x,⟨t.flatMap B0_++r,0⟩):=by
     rw[B9,A7]
     exact mail_fwd (hx x qI)
   rw[e]
   simp only[decide_true,BU,cond_true]
   rw[lt,e1]
   rw[rread_fwd0 r1 r h32 t f _ total (kept++[x]) pU pU qD (λy hy=>hx y pA)]
   simp
theorem rread_fwd{x:Al_}(h:RiF x)(r:Bs):Jw_ ⟨Bu_ x++r,0⟩=(x,⟨r,0⟩):=by
 have⟨h1,h2,h3⟩:=h;unfold Jw_;have e1:R_ ⟨Bu_ x++r,0⟩ 8=(x.total,⟨numB 1 x.kept.length++(x.kept.flatMap B0_++r),0⟩):=by
   rw[rb_eq]
   exact sC
 have e2:R_ ⟨numB 1 x.kept.length++(x.kept.flatMap B0_++r),0⟩ 1=((x.kept.length:Int),⟨x.kept.flatMap B0_++r,0⟩):=I7_ qD;rw[lt,e1,lt,e2,lt1];dsimp only;have d1:decide ((16:Int)<(x.kept.length:Int))=false:=decide_eq_false qD;have d2:decide ((x.kept.length:Int)=min x.total 16)=true:=decide_eq_true h2;rw[d1,d2];simp only[decide_true,A2,cond_false];rw[rread_fwd0 _ r qD x.kept _ 0 x.total [] qD qD qD h3];simp
theorem ntf_nil:NtF ⟨0,[]⟩:=⟨by simp,by decide,λ_ h=>by cases h⟩
theorem nadd_f{n:B8_}{x:Eb_}(ht:U64 x.tick)(hk:0<=x.kind/\x.kind<=255)(h:NtF n):NtF (Ei_ n x).1:=by
 have⟨⟨h1,h2⟩,h3,h4⟩:=h;unfold Ei_;let Q:B8_×Int->Prop:=λr=>NtF r.1;refine bt (P:=Q) (λ_=>⟨⟨h1,h2⟩,h3,h4⟩) λe1=>bt (P:=Q) (λ_=>⟨⟨h1,h2⟩,h3,h4⟩) λe2=>?_;simp only[decide_eq_false_iff_not] at e1 e2;have hw:A0 .u64 (n.total+1)=n.total+1:=Bp_ qD;have hl:([n.kept,[x]].flatten).length=n.kept.length+1:=by simp
 refine⟨⟨?_,?_⟩,?_,λy hy=>?_⟩;show 0<=A0 .u64 (n.total+1);omega;show A0 .u64 (n.total+1)<=18446744073709551615;omega;show (((([n.kept,[x]].flatten).drop ((max 0 ((([n.kept,[x]].flatten).length:Int)-32))).toNat)).length:Int)=min (A0 .u64 (n.total+1)) 32;rw[AM,hl,hw];omega
 . have hy:y∈([n.kept,[x]].flatten).drop ((max 0 ((([n.kept,[x]].flatten).length:Int)-32))).toNat:=hy
   have hy:=AX hy
   simp only[AP,AU,AJ,CK,CL] at hy
   rcases hy with q|q
   exact h4 y q
   subst q
   exact⟨ht,hk,by omega⟩
theorem rif_nil:RiF ⟨0,[]⟩:=⟨by simp,by decide,λ_ h=>by cases h⟩
theorem rput_f{x:Al_}{m:Mail}(hm:Hs_ m=0->MlF m)(h:RiF x):RiF (Da_ x m).1:=by
 have⟨⟨h1,h2⟩,h3,h4⟩:=h;unfold Da_ lt;let Q:Al_×Int->Prop:=λr=>RiF r.1;refine bt (P:=Q) (λ_=>⟨⟨h1,h2⟩,h3,h4⟩) λe1=>bt (P:=Q) (λ_=>⟨⟨h1,h2⟩,h3,h4⟩) λe2=>?_;simp only[AN,decide_eq_true_eq] at e1;simp only[decide_eq_false_iff_not] at e2;have hw:A0 .u64 (x.total+1)=x.total+1:=Bp_ qD;have hc:K_ m=m:=rfl;have hl:([x.kept,[K_ m]].flatten).length=x.kept.length+1:=by simp
 refine⟨⟨?_,?_⟩,?_,λy hy=>?_⟩;show 0<=A0 .u64 (x.total+1);omega;show A0 .u64 (x.total+1)<=18446744073709551615;omega;show (((([x.kept,[K_ m]].flatten).drop ((max 0 ((([x.kept,[K_ m]].flatten).length:Int)-16))).toNat)).length:Int)=min (A0 .u64 (x.total+1)) 16;rw[AM,hl,hw];omega
 . have hy:y∈([x.kept,[K_ m]].flatten).drop ((max 0 ((([x.kept,[K_ m]].flatten).length:Int)-16))).toNat:=hy
   have hy:=AX hy
   simp only[AP,AU,AJ,CK,CL] at hy
   rcases hy with q|q
   exact h4 y q
   rw[hc] at q;subst q
   exact hm e1
def N3_(x:Z_):Bs:=numB 1 (Ee_ x).toNat++B0_ x.Ah_
def rowB(r:Go_):Bs:=txtB r.q.name++(numB 8 r.q.most.toNat++(numB 8 r.q.life.toNat++(txtB r.q.dead++(numB 1 r.l.items.length++r.l.items.flatMap N3_))))
def upB(a:A16_RiseR):Nat->Bs
 |0=>[]
 |n+1=>(if 0<(A16.get a (15-n)).total then numB 1 (15-n)++Bu_ (A16.get a (15-n)) else [])++upB a n
def upN(a:A16_RiseR):Nat->Nat
 |0=>0
 |n+1=>(if 0<(A16.get a (15-n)).total then 1 else 0)+upN a n
theorem upN_le(a:A16_RiseR):∀ n,upN a n<=n
 |0=>BF 0
 |n+1=>by
   have :=upN_le a n
   rw[upN]
   split<;>omega
theorem all_id0:∀ (t out:List Z_),E7_ t out=out++t
 |[],out=>by simp[E7_]
 |x::t,out=>by
   rw[E7_,lt,all_id0 t]
   simp[Ck_,lt,K_]
theorem all_id(l:Ax_):Fv_ l=l.items:=by
 unfold Fv_;rw[all_id0];rfl
theorem ke1:∀ (t:List Z_) (o:Out),B7_ t o=⟨o.s++t.flatMap N3_,o.err⟩
 |[],o=>by simp[B7_]
 |y::t,o=>by
   rw[B7_,ke1 t,Gh_]
   simp[Af_,N3_]
theorem ke2(s:I_)(x:Out):∀ (n f:Nat) (many:Nat) (o:Out),n<=16->n<f->many+n<=16->Db_ s x f many (16-n) o=x.s++(numB 1 (many+upN s.rises n)++(o.s++upB s.rises n))
 |_,0,_,_,_,h,_=>by omega
 |0,f+1,many,o,_,_,_=>by
   rw[Db_]
   have e:decide (((16-0:Nat):Int)<16)=false:=by decide
   rw[e,cond_false,Gh_]
   simp[Af_,upN,upB]
 |n+1,f+1,many,o,h,hf,hm=>by
   rw[Db_]
   have e:decide (((16-(n+1):Nat):Int)<16)=true:=decide_eq_true qD
   have hv:16-(n+1)=15-n:=by omega
   have hv2:16-(n+1)+1=16-n:=by omega
   rw[e,cond_true,lt,hv2,hv]
   have ht:K2_ (A16.get s.rises (15-n))=(A16.get s.rises (15-n)).total:=rfl
   rw[ht]
   by_cases q:0<(A16.get s.rises (15-n)).total
   . rw[decide_eq_true q,cond_true]
     have hw:A0 .u64 ((many:Int)+1)=((many+1:Nat):Int):=by rw[Bp_ qD];omega
     rw[hw,ke2 s x n f (many+1) _ qD qD qD,Gh_,upN,upB,if_pos q,if_pos q]
     simp only[Af_,A7,AI]
     rw[Nat.add_assoc]
   . rw[decide_eq_false q,cond_false,ke2 s x n f many _ qD qD qD,upN,upB,if_neg q,if_neg q]
     simp
theorem ke0(s:I_):∀ (t:List Go_) (o:Out),(∀ r∈t,LnOk r.l/\Bw_ r.q=0)->Ch_ s t o=o.s++(t.flatMap rowB++(numB 1 (upN s.rises 16)++upB s.rises 16))
 |[],o,_=>by
   rw[Ch_]
   have :=ke2 s o 16 17 0 aE qD qD qD
   exact sU
 |r::t,o,h=>by
   have⟨hl,hq⟩:=h r qI
   have⟨q1,q2,_,_⟩:=Tw_ hq
   have h64:=hl.1
   have hw:A0 .u64 (Fe_ r.l)=(r.l.items.length:Int):=Bp_ (show (0:Int)<=(r.l.items.length:Int) by omega) (h1:=show (r.l.items.length:Int)<=_ by omega)
   rw[Ch_,lt1,lt,all_id,ke1,hw,Gh_,Bq_ (s:=r.q.dead) qD,Jp_,Jp_,Bq_ (s:=r.q.name) qD]
   rw[ke0 s t _ (λz hz=>h z qX)]
   simp[rowB,A7]
theorem ke{s:I_}(hs:StkOk s)(hq:RoB s):X_ s=numB 8 s.next.toNat++(numB 1 s.rows.length++(s.rows.flatMap rowB++(numB 1 (upN s.rises 16)++upB s.rises 16))):=by
 unfold X_;rw[ke0 s _ _ (λr hr=>⟨hs.1.2.1 r hr,hq r hr⟩),Gh_,Jp_];simp
def DdsW(l:List G_):Prop:=∀ d∈l,DWf d
theorem ddw_nil:DdsW []:=λ_ h=>by cases h
theorem ddw_app{l:List G_}{d:G_}(h:DdsW l)(hd:DWf d):DdsW (l++[d]):=λy hy=>by
 rcases List.mem_append.1 hy with q|q
 . exact h y q
 . rw[List.mem_singleton.1 q];exact hd
theorem ddw_k{d:G_}(h:DWf d):0<=d.kind:=h.1.1.1
theorem ddw_g{d:G_}(h:DWf d)(he:Fj_ d=0):DdG d/\0<=d.kind:=by
 have ok:=Qr_ (ddw_k h) he;have⟨k1,k2,k3,k4,k5,k6,k7,k8,k9,k10,k11,k12,k13,k14,k15,k16,k17,k18,k19⟩:=ok;have⟨hw,hp,_⟩:=h;have⟨w1,w2,w3,w4,w5,w6,w7,w8,w9,w10,w11,w12,w13⟩:=hw;simp only[W_.wf,Q_.wf,Mail.wf] at w3 w5 w12;have a1:=(Lm_ k11).1;have a2:=(Lm_ k16).1;refine⟨⟨⟨by omega,by omega,by omega,by omega⟩,w10.1,w10.2,by omega,by omega,hp⟩,w1.1⟩
theorem pack_each:∀ (l:List G_) (o:Bs),(D5_ l o).2=0->∀ d∈l,Fj_ d=0
 |[],_,_=>λ_ h=>by cases h
 |x::t,o,h=>by
   unfold D5_ at h
   by_cases e:Fj_ x=0
   . simp only[e,decide_true,A2,cond_false] at h
     intro d hd
     rcases List.mem_cons.1 hd with rfl|q
     . exact e
     . exact pack_each t _ h d q
   . simp[e] at h
theorem pack_e{l:List G_}(h:(D4_ l).2=0):∀ d∈l,Fj_ d=0:=by
 unfold D4_ at h;by_cases c:(255:Int)<(l.length:Int)
 . simp only[c,decide_true,cond_true] at h;cases h
 simp only[c,decide_false,cond_false] at h;exact pack_each l _ h
def Fp_(text:Bs):Nat->List G_->Int->In->(List G_)×Int
 |0,_,_,_=>default
 | f2+1,l,n,x=>(bif ((decide (0<n))&&(decide (x.err=0))) then
 lt (Gi_ x) λr1=>
 Fp_ text f2 (l++[r1.1]) (A0 .u64 (n-1)) r1.2
 else (bif (((!decide ((Vj_ x)=0))||(!decide (((D4_ l).2)=0)))||(!decide (((D4_ l).1)=text))) then
 ([],4)
 else (l,0)))
def Gp_(text:Bs):(List G_)×Int:=
 lt (R_ (⟨text,0⟩) 1) λr=>
 Fp_ text ((r.1).toNat+1) [] r.1 r.2
theorem unp0(text:Bs):∀ (f:Nat) (l:List G_) (n:Int) (i:In),DdsW l->∀ d∈(Fp_ text f l n i).1,DdG d/\0<=d.kind
 |0,_,_,_,_=>λ_ h=>by cases h
 |f+1,l,n,i,hl=>by
   rw[Fp_]
   refine bt (P:=λr:List G_×Int=>∀ d∈r.1,DdG d/\0<=d.kind) (λ_=>?_) λ_=>bt (P:=λr:List G_×Int=>∀ d∈r.1,DdG d/\0<=d.kind) (λ_=>λ_ h=>by cases h) λc=>?_
   . unfold lt
     exact unp0 text f _ _ _ (ddw_app hl (readD_pw i))
   . simp only[AO,AN,decide_eq_true_eq] at c
     exact λd hd=>ddw_g (hl d hd) (pack_e c.1.2 d hd)
theorem unpack_g(text:Bs):∀ d∈(Gp_ text).1,DdG d/\0<=d.kind:=by
 unfold Gp_ lt;exact unp0 text _ _ _ _ ddw_nil
theorem unpack_at{text:Bs}{r:List G_×Int}(h:Gp_ text=r){k:Nat}{d:G_}(hd:r.1[k]? = some d):DdG d/\0<=d.kind:=by
 subst h;exact unpack_g text d (A4 hd)
theorem pack_len{l:List G_}(h:(D4_ l).2=0):l.length<=255:=by
 unfold D4_ at h;by_cases c:(255:Int)<(l.length:Int)
 . simp only[c,decide_true,cond_true] at h;cases h
 omega
theorem unl0(text:Bs):∀ (f:Nat) (l:List G_) (n:Int) (i:In),(Fp_ text f l n i).1.length<=255
 |0,_,_,_=>AT _
 |f+1,l,n,i=>by
   rw[Fp_]
   refine bt (P:=λr:List G_×Int=>r.1.length<=255) (λ_=>?_) λ_=>bt (P:=λr:List G_×Int=>r.1.length<=255) (λ_=>AT _) λc=>?_
   . unfold lt
     exact unl0 text f _ _ _
   . simp only[AO,AN,decide_eq_true_eq] at c
     exact pack_len c.1.2
theorem unpack_l{text:Bs}{r:List G_×Int}(h:Gp_ text=r):r.1.length<=255:=by
 subst h;unfold Gp_ lt;exact unl0 text _ _ _ _
def SpB(a:A8_SpentR):Prop:=∀ i,i<8->0<=(A8.get a i).count/\(A8.get a i).count<=16
def RdS(r:Ab_×Int):Prop:=r.2=0->SpB r.1.spent
theorem irs3{text:Bs}{p:F_}{k:Int}{E1_:List G_}{q:I_×Int}:∀ (f:Nat) (e:Int) (v:Nat) (i:In) (x:Ab_),8-v<f->v<=8->(e=0->∀ j,j<v->0<=(A8.get x.spent j).count/\(A8.get x.spent j).count<=16)->RdS (C8_ text p k E1_ q f e v i x)
 |0,_,_,_,_,h,_,_=>by omega
 |f+1,e,v,i,x,h,hv,hx=>by
   rw[C8_]
   refine bt (P:=RdS) (λc=>?_) λc0=>bt (P:=RdS) (λ_ h=>by cases h) λc=>?_
   . simp only[decide_eq_true_eq] at c
     unfold lt
     have hn:=Ao_ (R_ i 8).2 1
     have hset:∀ y:Ai_,∀ j,j<8->A8.get (A8.set x.spent y v) j = if j=v then y else A8.get x.spent j:=λy j hj=>A8.get_set _ _ _ _ qD hj
     refine bt (P:=RdS) (λ_=>irs3 f _ _ _ _ qD qD λe0=>by cases e0) λc2=>irs3 f _ _ _ _ qD qD λe0 j hj=>?_
     have h1:=hset (⟨(R_ i 8).1,(R_ (R_ i 8).2 1).1⟩:Ai_) j qD
     by_cases ej:j=v
     . subst ej
       have h2:=of_decide_eq_false c2
       rw[hset _ j qD,if_pos rfl] at h2
       show 0<=(A8.get (A8.set x.spent _ j) j).count/\(A8.get (A8.set x.spent _ j) j).count<=16
       rw[h1,if_pos rfl]
       exact⟨hn.1,by show (R_ (R_ i 8).2 1).1<=16;have h3:¬(16:Int)<(R_ (R_ i 8).2 1).1:=h2;omega⟩
     . show 0<=(A8.get (A8.set x.spent _ v) j).count/\(A8.get (A8.set x.spent _ v) j).count<=16
       rw[h1,if_neg ej]
       exact hx e0 j qD
   . simp only[AO,AN,decide_eq_true_eq] at c
     have hv8:v=8:=by have :=of_decide_eq_false c0;omega
     unfold lt
     refine bt (P:=RdS) (λ_ h=>by cases h) λ_ _=>?_
     subst hv8
     exact hx c.2
theorem irs2{text:Bs}{p:F_}{k:Int}{E1_:List G_}{q:I_×Int}:∀ (f v:Nat) (i:In) (x:Ab_),16-v<f->RdS (Dv_ text p k E1_ q f v i x)
 |0,_,_,_,h=>by omega
 |f+1,v,i,x,h=>by
   rw[Dv_]
   refine bt (P:=RdS) (λc=>?_) λ_=>irs3 _ _ _ _ _ qD qD λ_ j hj=>by omega
   simp only[decide_eq_true_eq] at c
   exact irs2 f _ _ _ qD
theorem irs1{text:Bs}{p:F_}{k:Int}{f:Nat}:∀ (n:Int) (i:In) (E1_:List G_),n.toNat<f->0<=n->n<=255->RdS (Cn_ text p k f n i E1_):=by
 induction f with
 |zero=>intro n i E1_ h _ _;omega
 |succ f ih=>
   intro n i E1_ h h0 h5
   rw[Cn_.eq_2]
   refine bt (P:=RdS) (λc=>?_) λ_=>?_
   . simp only[A5,decide_eq_true_eq] at c
     have a1:(A0 .u64 (n-1)).toNat<f:=by rw[Bp_ qD];omega
     have a2:0<=A0 .u64 (n-1):=by rw[Bp_ qD];omega
     have a3:A0 .u64 (n-1)<=255:=by rw[Bp_ qD];omega
     generalize A0 .u64 (n-1)=m at a1 a2 a3 ⊢
     rw[lt]
     generalize V_ i 16=r5
     rw[lt]
     generalize V_ r5.2 16=r6
     rw[lt]
     generalize R_ r6.2 1=r7
     rw[lt]
     generalize V_ r7.2 64=r8
     rw[lt]
     generalize Br_ r8.2=r9
     rw[lt]
     generalize R_ r9.2 1=r10
     exact ih _ _ _ a1 a2 a3
   . rw[lt]
     generalize R_ i 4=r11
     rw[lt]
     generalize Fk_ r11.2 (A0 .i64 r11.1)=r12
     rw[lt]
     generalize Hy_ r12.1 ((gt p.places k.toNat).bytes)=r13
     rw[lt]
     generalize Ds_ r12.2=r14
     exact irs2 (16-0+1) 0 _ _ qF
theorem irs0{text:Bs}{p:F_}{k:Int}{f:Nat}:∀ (n:Int) (i:In) (E1_:List G_),n.toNat<f->0<=n->n<=255->RdS (Ec_ text p k f n i E1_):=by
 induction f with
 |zero=>intro n i E1_ h _ _;omega
 |succ f ih=>
   intro n i E1_ h h0 h5
   rw[Ec_.eq_2]
   refine bt (P:=RdS) (λc=>?_) λ_=>?_
   . simp only[A5,decide_eq_true_eq] at c
     have a1:(A0 .u64 (n-1)).toNat<f:=by rw[Bp_ qD];omega
     have a2:0<=A0 .u64 (n-1):=by rw[Bp_ qD];omega
     have a3:A0 .u64 (n-1)<=255:=by rw[Bp_ qD];omega
     generalize A0 .u64 (n-1)=m at a1 a2 a3 ⊢
     rw[lt]
     generalize V_ i 16=r1
     rw[lt]
     generalize R_ r1.2 1=r2
     rw[lt]
     generalize V_ r2.2 16=r3
     exact ih _ _ _ a1 a2 a3
   . have h1:=Ao_ i 1
     unfold lt
     dsimp only
     exact irs1 _ _ _ (by show (R_ i 1).1.toNat<(R_ i 1).1.toNat+1;omega) h1.1 (h1.2.2.2 qF)
theorem iread_sp(text:Bs)(p:F_)(k:Int):RdS (Hk_ text p k):=by
 unfold Hk_;have h1:=Ao_ (⟨text,0⟩:In) 1;exact irs0 _ _ _ (by show (R_ _ 1).1.toNat<(R_ _ 1).1.toNat+1;omega) h1.1 (h1.2.2.2 qF)
def Xn_:Bool:=
 lt (At_ aW 0) λr=>
 lt (S_ r) λr1=>
 lt (Az_ r1) λr2=>
 lt (Hk_ r2 aW 0) λr3=>
 ((((Xl_)&&(decide ((r2.length:Int)=225)))&&(decide (r3.2=0)))&&(decide ((Mb_ r3.1.E_)=1)))
def Xm_:Bool:=
 (Xn_)
theorem Z4_:∀ (l:List Go_) (out:List M_),D7_ l out=out++l.map (·.q)
 |[],out=>by simp[D7_]
 |x::t,out=>by unfold D7_;rw[Z4_ t];simp
theorem queues_eq(s:I_):A9_ s=s.rows.map (·.q):=by unfold A9_;rw[Z4_];rfl
theorem deed_sort{l:List G_}{k:Nat}{d:G_}(h:(PV.sl G_.pc l).wf)(hd:l[k]? = some d):0<=d.Bm_.sort:=by
 have :=(h.2 d (A4 hd)).2.2.2.1;exact this.1
theorem deed_want{l:List G_}{k:Nat}{d:G_}(h:(PV.sl G_.pc l).wf)(hd:l[k]? = some d):∀ p∈d.bind.want,p.wf:=λp hp=>by
 have :=(h.2 d (A4 hd)).2.2.2.2.2.2.2.2.2.2.2.2.2.1
 exact Pair.pwf (this.2 p hp)
theorem Wn_{l:List G_}{k:Nat}{d:G_}(h:(PV.sl G_.pc l).wf)(hd:l[k]? = some d):0<=d.code/\d.code<=255:=by
 have :=(h.2 d (A4 hd)).2.2.2.2.2.2.2.2.2.2.2.2.2.2.2.2.2.2.2.1;exact this
theorem Va_:∀ (l:List A8_),I8_ l=true->∀ y∈l,y.name.length<=40
 |[],_,y,h=>by cases h
 |x::t,h,y,hy=>by
   unfold I8_ at h
   cases e:decide (40<(x.name.length:Int)) with
   |true=>rw[e] at h;cases h
   |false=>
     rw[e] at h
     rcases List.mem_cons.1 hy with q|q
     . rw[q];have :=of_decide_eq_false e;omega
     . exact Va_ t h y q
theorem may_names{p:F_}(h:N4_ p=true):∀ y∈p.places,y.name.length<=300:=by
 unfold N4_ at h;rw[A5] at h;have h1:=h.1;unfold Oe_ at h1
 cases e:(decide (20<(p.places.length:Int)) || decide (40<(p.slots.length:Int)) || decide (10<(p.grants.length:Int))) with
 |true=>rw[e] at h1;cases h1
 |false=>
   rw[e] at h1
   intro y hy
   have :=Va_ _ h1 y hy
   omega
theorem l05_may2{p:F_}(h:N4_ p=true):PoOk p/\0<p.places.length/\p.places.length<=16/\0<p.slots.length/\p.slots.length<=32/\p.grants.length<=8/\∀ y∈p.places,y.name.length<=300:=by
 have⟨a,b,c,d,e,f⟩:=l05_may h;exact⟨a,b,c,d,e,f,may_names h⟩
def zParts:Ab_:=bI
def RdA(text:Bs)(r:Ab_×Int):Prop:=r=(zParts,4)\/(r.2=0/\ImOk r.1/\Az_ r.1=text)
theorem ird3{text:Bs}{p:F_}{k:Int}(hp:PoOk p)(hk:0<=k/\k<p.places.length){E1_:List G_}{q:I_×Int}:∀ (f:Nat) (e:Int) (v:Nat) (i:In) (x:Ab_),8-v<f->DdsG i E1_->PkOk x->RdA text (C8_ text p k E1_ q f e v i x)
 |0,_,_,_,_,h,_,_=>by omega
 |f+1,e,v,i,x,h,hd,hx=>by
   rw[C8_]
   refine bt (P:=RdA text) (λc=>?_) λ_=>bt (P:=RdA text) (λ_=> .inl Z) λc=>?_
   . simp only[decide_eq_true_eq] at c
     unfold lt
     have h2:=L6_ (L6_ hd (n:=8) Z) (n:=1) Z
     exact bt (P:=RdA text) (λ_=>ird3 hp hk f _ _ _ _ qD h2 hx) λ_=>ird3 hp hk f _ _ _ _ qD h2 hx
   . simp only[AO,AN,decide_eq_true_eq] at c
     have hb:=book_ok (⟨(),E1_⟩:RdR) (At_ p k) (A9_ q.1) (M4_ hp hk) (newB p k) (hd (inEnd_e c.1))
     unfold lt
     refine bt (P:=RdA text) (λ_=> .inl Z) λc2=> .inr ⟨rfl,imOk_of hb hx,?_⟩
     simp only[AO,AN,decide_eq_true_eq] at c2
     exact c2.2
theorem ird2{text:Bs}{p:F_}{k:Int}(hp:PoOk p)(hk:0<=k/\k<p.places.length){E1_:List G_}{q:I_×Int}:∀ (f v:Nat) (i:In) (x:Ab_),16-v<f->DdsG i E1_->PkOk x->RdA text (Dv_ text p k E1_ q f v i x)
 |0,_,_,_,h,_,_=>by omega
 |f+1,v,i,x,h,hd,hx=>by
   rw[Dv_]
   refine bt (P:=RdA text) (λc=>?_) λ_=>ird3 hp hk _ _ _ _ _ qD hd hx
   simp only[decide_eq_true_eq] at c
   exact ird2 hp hk f _ _ _ qD (L6_ hd (n:=8) Z) hx
theorem ird1b{text:Bs}{p:F_}{k:Int}(hp:PoOk p)(hk:0<=k/\k<p.places.length){i:In}{E1_:List G_}(hd:DdsG i E1_){r11 r12 r14:_}{r13:I_×Int}(e1:R_ i 4=r11)(e2:Fk_ r11.2 (IntKind.wrap .i64 r11.1)=r12)(e3:Hy_ r12.1 ((gt p.places k.toNat).bytes)=r13)(e4:Ds_ r12.2=r14){x:Ab_}(hx1:x.E_=r13.1)(hx2:x.notes=r14.1){f:Nat}(hf:16<f):RdA text (Dv_ text p k E1_ r13 f 0 r14.2 x):=by
 have g:=kof_ok r12.1 ((gt p.places k.toNat).bytes) (Ux_ hp hk);rw[e3,<- hx1] at g;have g2:=nread_ok r12.2;rw[e4,<- hx2] at g2;exact ird2 hp hk _ _ _ _ hf (dds_notes (dds_raw (L6_ hd e1) e2) e4) ⟨g.1,g.2,g2.1,g2.2⟩
theorem ird1{text:Bs}{p:F_}{k:Int}(hp:PoOk p)(hk:0<=k/\k<p.places.length){f:Nat}:∀ (n:Int) (i:In) (E1_:List G_),n.toNat<f->0<=n->n<=255->DdsG i E1_->RdA text (Cn_ text p k f n i E1_):=by
 induction f with
 |zero=>intro n i E1_ h _ _ _;omega
 |succ f ih=>
   intro n i E1_ h h0 h5 hd
   rw[Cn_.eq_2]
   refine bt (P:=RdA text) (λc=>?_) λ_=>?_
   . simp only[A5,decide_eq_true_eq] at c
     have a1:(A0 .u64 (n-1)).toNat<f:=by rw[Bp_ qD];omega
     have a2:0<=A0 .u64 (n-1):=by rw[Bp_ qD];omega
     have a3:A0 .u64 (n-1)<=255:=by rw[Bp_ qD];omega
     generalize A0 .u64 (n-1)=m at a1 a2 a3 ⊢
     rw[lt]
     generalize e5:V_ i 16=r5
     rw[lt]
     generalize e6:V_ r5.2 16=r6
     rw[lt]
     generalize e7:R_ r6.2 1=r7
     rw[lt]
     generalize e8:V_ r7.2 64=r8
     rw[lt]
     generalize e9:Br_ r8.2=r9
     rw[lt]
     generalize e10:R_ r9.2 1=r10
     exact ih _ _ _ a1 a2 a3 (dds_bind hd e5 e6 e7 e8 e9 e10)
   . rw[lt]
     generalize e1:R_ i 4=r11
     rw[lt]
     generalize e2:Fk_ r11.2 (A0 .i64 r11.1)=r12
     rw[lt]
     generalize e3:Hy_ r12.1 ((gt p.places k.toNat).bytes)=r13
     rw[lt]
     generalize e4:Ds_ r12.2=r14
     exact ird1b hp hk hd e1 e2 e3 e4 Z Z qF
theorem ird0{text:Bs}{p:F_}{k:Int}(hp:PoOk p)(hk:0<=k/\k<p.places.length){f:Nat}:∀ (n:Int) (i:In) (E1_:List G_),n.toNat<f->0<=n->n<=255->DdsG i E1_->RdA text (Ec_ text p k f n i E1_):=by
 induction f with
 |zero=>intro n i E1_ h _ _ _;omega
 |succ f ih=>
   intro n i E1_ h h0 h5 hd
   rw[Ec_]
   refine bt (P:=RdA text) (λc=>?_) λ_=>?_
   . simp only[A5,decide_eq_true_eq] at c
     have a1:(A0 .u64 (n-1)).toNat<f:=by rw[Bp_ qD];omega
     have a2:0<=A0 .u64 (n-1):=by rw[Bp_ qD];omega
     have a3:A0 .u64 (n-1)<=255:=by rw[Bp_ qD];omega
     generalize A0 .u64 (n-1)=m at a1 a2 a3 ⊢
     unfold lt
     dsimp only
     generalize e1:V_ i 16=r1
     generalize e2:R_ r1.2 1=r2
     generalize e3:V_ r2.2 16=r3
     have h2:=dds_shop hd e1 e2 e3
     exact ih _ _ _ a1 a2 a3 h2
   . unfold lt
     dsimp only
     have h1:=Ao_ i 1
     have h2:=L6_ hd (n:=1) (r:=R_ i 1) Z
     generalize R_ i 1=r at h1 h2 ⊢
     exact ird1 hp hk _ _ _ qD h1.1 (h1.2.2.2 qF) h2
theorem iread_or(text:Bs){p:F_}{k:Int}(hp:PoOk p)(hk:0<=k/\k<p.places.length):RdA text (Hk_ text p k):=by
 unfold Hk_ lt;have h1:=Ao_ (⟨text,0⟩:In) 1;exact ird0 hp hk _ _ _ qD h1.1 (h1.2.2.2 qF) dds_nil
theorem rep_with{text:Bs}{p:F_}{k:Int}{r:Ab_×Int}{s:D_}(hp:PoOk p)(hk:0<=k/\k<p.places.length)(h:r=Hk_ text p k)(h0:r.2=0)(hs:s=Aw_ p k r.1):StOk s/\StB s:=by
 have h1:=iread_or text hp hk;have h2:=iread_sp text p k;rw[<- h] at h1 h2
 rcases h1 with h1|⟨_,h1,_⟩
 . rw[h1] at h0;cases h0
 have⟨a1,a2,a3,a4,a5,a6⟩:=h1;subst hs;exact⟨⟨⟨a1,a3,a5,h2 h0⟩,hp,hk⟩,a2,a4,a6⟩
def Do_:List G_->D_->Lo D_ (D_×Int)
 |[],x2=> .fin x2
 |x3::t,x2=>lt (H_ x2 x3) λr3=>
 (bif !decide (r3.2.2=0) then
 .ret ((⟨bI,aS,0⟩:D_),4)
 else Do_ t r3.1)
def E6_(r:Ab_×Int):List Bs->D_->D_×Int
 |[],x=>(x,0)
 | x4::t1,x=>(lp1 (lt (Gp_ x4) λr2=>
 (bif !decide (r2.2=0) then
 .ret ((⟨bI,aS,0⟩:D_),4)
 else Do_ r2.1 x)) (λx1=>
 E6_ r t1 x1) (λr=>r))
def Jf_(p:F_)(place:Int)(text:Bs)(records:List Bs):D_×Int:=
 lt (Hk_ text p place) λr=>
 (bif !decide (r.2=0) then
 ((⟨bI,aS,0⟩:D_),4)
 else lt (Aw_ p place r.1) λr1=>
 E6_ r records r1)
theorem lit_g{k t:Int}:DdG (⟨k,t,aO,aM,aP,[],0,0,0,0,0,aJ,[]⟩:G_):=
 ⟨⟨by simp,by simp,by simp,by simp⟩,by simp,by simp,by simp,by simp,λ_ h=>by cases h⟩
theorem rep1:∀ (l:List G_) (s:D_),(∀ d∈l,DdG d/\0<=d.kind)->StOk s->StB s->∀ y,Do_ l s = .fin y->StOk y/\StB y
 |[],s,_,h1,h2,y,h=>by rw[Do_.eq_1] at h;cases h;exact⟨h1,h2⟩
 |d::t,s,hd,h1,h2,y,h=>by
   rw[Do_.eq_2] at h
   unfold lt at h
   have⟨⟨g1,g2,g3,g4,g5,g6⟩,_⟩:=hd d (AG ..)
   by_cases e:(H_ s d).2.2=0
   . simp only[e,decide_true,A2,cond_false] at h
     exact rep1 t _ (λz hz=>hd z (AB _ hz)) (Uh_ h1 g1 g4) (doB ⟨g2,g3⟩ h1 g4 g5 g6 h2) y h
   . simp only[e,decide_false,AE,cond_true] at h;cases h
theorem rep1r:∀ (l:List G_) (s:D_) (y:D_×Int),Do_ l s = .ret y->y.2=4
 |[],s,y,h=>by rw[Do_.eq_1] at h;cases h
 |d::t,s,y,h=>by
   rw[Do_.eq_2] at h
   unfold lt at h
   by_cases e:(H_ s d).2.2=0
   . simp only[e,decide_true,A2,cond_false] at h
     exact rep1r t _ y h
   . simp only[e,decide_false,AE,cond_true] at h;cases h;rfl
theorem rep0(r:Ab_×Int):∀ (l:List Bs) (s:D_),StOk s->StB s->(E6_ r l s).2=0->StOk (E6_ r l s).1/\StB (E6_ r l s).1
 |[],s,h1,h2,_=>⟨h1,h2⟩
 |x::t,s,h1,h2,h=>by
   rw[E6_.eq_2] at h ⊢
   rw[lt] at h ⊢
   by_cases e:(Gp_ x).2=0
   . simp only[e,decide_true,A2,cond_false] at h ⊢
     cases c:Do_ (Gp_ x).1 s with
     |fin y=>
       rw[c] at h
       have⟨k1,k2⟩:=rep1 _ s (unpack_g x) h1 h2 y c
       exact rep0 r t y k1 k2 h
     |ret y=>
       rw[c] at h
       have :=rep1r _ s y c
       have h':y.2=0:=h
       rw[this] at h';exact absurd h' qF
   . simp only[e,decide_false,AE,cond_true] at h
     have h':(4:Int)=0:=h
     exact absurd h' qF
theorem rep_ok2{p:F_}{k:Int}{text:Bs}{l:List Bs}{r:D_×Int}(hp:PoOk p)(hk:0<=k/\k<p.places.length)(h:r=Jf_ p k text l)(h0:r.2=0):StOk r.1/\StB r.1:=by
 subst h;unfold Jf_ lt at h0 ⊢;by_cases e:(Hk_ text p k).2=0;simp only[e,decide_true,A2,cond_false] at h0 ⊢;have⟨a,b⟩:=rep_with hp hk Z e Z;exact rep0 _ l _ a b h0;simp only[e,decide_false,AE,cond_true] at h0;have h':(4:Int)=0:=h0;exact absurd h' qF
def Dl_(p:F_)(place:Int)(d:Bi_)(tick:Int):Bool×Int×Bi_×Ay_:=
 lt (H0_ d) λr=>
 (bif r.1 then
 lt (At_ p place) λr1=>
 (bif !decide (r.2.1=[]) then
 lt (Jf_ p place r.2.1 r.2.2.1) λr2=>
 (bif !decide (r2.2=0) then
 (false,r2.2,r.2.2.2.2.1,(default:Ay_))
 else lt (H_ r2.1 (Y2_ tick)) λr3=>
 lt (S_ r3.1) λr4=>
 lt (Az_ r4) λr5=>
 lt (Eg_ (⟨r.2.2.2.2.1,r.2.2.2.2.2.A4_,r.2.2.2.2.2.gen,r.2.2.2.2.2.ready,r.2.2.2.2.2.broken,r.2.2.2.2.2.done,r.2.2.2.2.2.waits⟩:C5_) r5) λr6=>
 (bif !decide (r6.1=0) then
 (false,r6.1,r6.2.d,(default:Ay_))
 else (true,0,r6.2.d,(⟨r3.1,r6.2⟩:Ay_))))
 else lt (S_ r1) λr7=>
 lt (Az_ r7) λr8=>
 lt (Eg_ (⟨r.2.2.2.2.1,r.2.2.2.2.2.A4_,r.2.2.2.2.2.gen,r.2.2.2.2.2.ready,r.2.2.2.2.2.broken,r.2.2.2.2.2.done,r.2.2.2.2.2.waits⟩:C5_) r8) λr9=>
 (bif !decide (r9.1=0) then
 (false,r9.1,r9.2.d,(default:Ay_))
 else (true,0,r9.2.d,(⟨r1,r9.2⟩:Ay_))))
 else (false,r.2.2.2.1,r.2.2.2.2.1,(default:Ay_)))
theorem seg1{x:Bs}(h0:x≠[])(h:x.length<=131072):B3_ [x]=(Iz_ x,0):=by
 have h1:¬(131072:Int)<(x.length:Int):=by omega
 simp only[B3_,Ge_,h0,h1,decide_false,cond_false,lt,AV]
theorem dkI_new:DkI (Em_ 120):=by
 have e:(Em_ 120).lasts.length=7680:=by unfold Em_;simp only[BN];omega
 exact⟨rfl,rfl,BX 0,e,λy hy=>by cases hy⟩
theorem kok_nw{b c:Int}:KOk (Bl_ b c).bytes (Bl_ b c):=by
 have e:uz (Bl_ b c).rises 16=0:=by simp[uz,Bl_,A16.get,Cj_,B6_]
 have e2:rz (Bl_ b c).rows=0:=rfl;have e3:(Bl_ b c).bytes=max 0 c:=rfl;refine⟨rfl,?_⟩;rw[e,e2,e3];omega
theorem stI_new{p:F_}{r:Int}(hp:PoOk p)(hk:0<=r/\r<p.places.length):StI p r (At_ p r):=⟨M4_ hp hk,newB p r,rfl,rfl,kok_nw,by
 have hb:=(hp.2.2.2.2.2.2 _ (I2_ (xs:=p.places) (k:=r.toNat) qD)).2
 show max 0 (gt p.places r.toNat).bytes<=65536
 omega⟩
theorem img_zero{x:Ab_}(hi:ImOk x)(hb:x.book=aV)(hn:x.notes=bD)(hr:x.E_.rows=[])(hu:upB x.E_.rises 16=[]):(Az_ x).length<=1000:=by
 have⟨z,hz,e⟩:=ib_eq hi;have hk:=ke hi.2.2.1 hi.2.2.2.1;rw[hr,hu] at hk;have l0:=congrArg BL hk;simp only[A1,Ad_,FX,A6] at l0;have l1:(bookB aV).length=2:=by simp[bookB,Ad_]
 have l2:(K8_ bD).length=9:=by simp[K8_,Ad_]
 have l3:=congrArg BL e;rw[hb,hn] at l3;simp only[A1,Ad_,hz,l1,l2] at l3;omega
theorem rises_new{b c:Int}:upB (Bl_ b c).rises 16=[]:=by
 simp[upB,Bl_,A16.get]
theorem img_new{p:F_}{r:Int}(hp:PoOk p)(hk:0<=r/\r<p.places.length):(Az_ (S_ (At_ p r))).length<=1000:=
 img_zero (im_st (M4_ hp hk) (newB p r)) Z Z Z rises_new
theorem one_s{r:Bs}(h:r.length<=131072):Iz_ r=numB 4 r.length++(r++(numB 4 (Im_ [numB 4 r.length++r]).toNat++[165])):=by
 unfold Iz_;have h1:A0 .u8 (165:Int)=165:=by decide
 rw[Gh_,Ya_,Ya_];simp[Af_,numB]
theorem one_len{r:Bs}(h:r.length<=131072):(Iz_ r).length=r.length+9:=by
 rw[one_s h];simp only[A1,Ad_,A3,A6];omega
theorem inRaw_fwd{r t:Bs}:Fk_ ⟨r++t,0⟩ (r.length:Int)=(r,⟨t,0⟩):=by
 unfold Fk_;by_cases h:r=[];subst h;simp;have :¬((r.length:Int)+t.length<r.length):=by omega
 simp[h,this]
theorem next_one{r t:Bs}(h0:r≠[])(h:r.length<=131072):Ik_ (Iz_ r++t)=(r,(r.length:Int)+9,0):=by
 have hl:0<r.length:=List.length_pos_iff.2 h0;have hc:=Qq_ [numB 4 r.length++r];unfold Ik_ lt;have e1:Iz_ r++t=numB 4 ((r.length:Int)).toNat++(r++(numB 4 (Im_ [numB 4 r.length++r]).toNat++(165::t))):=by
   rw[one_s h];simp
 have e2:R_ ⟨Iz_ r++t,0⟩ 4=((r.length:Int),⟨r++(numB 4 (Im_ [numB 4 r.length++r]).toNat++(165::t)),0⟩):=by
   rw[e1];exact Qt_ qD qD
 have ew:A0 .i64 (r.length:Int)=(r.length:Int):=Gn_;have h1:¬(r.length:Int)=0:=by omega
 have h2:¬(131072:Int)<(r.length:Int):=by omega
 have h3:¬(((Iz_ r++t).length:Int))<(r.length:Int)+9:=by rw[A1,one_len h];omega
 have h4:(((Iz_ r++t).getD ((((r.length:Int)+9)-1)).toNat 0).toNat:Int)=165:=by
   rw[e1]
   have :((((r.length:Int)+9)-1)).toNat=4+(r.length+4):=by omega
   rw[this,AS,BB (by rw[Ad_];omega),Ad_,BB qD,BB (by rw[Ad_];omega),Ad_]
   simp
 have h5:(Iz_ r++t).take (((r.length:Int)+4)).toNat=numB 4 r.length++r:=by
   rw[e1,show (((r.length:Int)+4)).toNat=4+r.length by omega]
   have :=Ad_ 4 ((r.length:Int)).toNat
   rw[C4,AD qD,this]
   simp
 simp only[e2,ew,h1,h2,h3,h4,h5,decide_true,decide_false,A2,cond_false,inRaw_fwd];have e3:R_ ⟨numB 4 (Im_ [numB 4 r.length++r]).toNat++(165::t),0⟩ 4=(Im_ [numB 4 r.length++r],⟨165::t,0⟩):=Qt_ hc.1 qD;simp only[e3,decide_true,A2,cond_false]
theorem numB4_0:numB 4 ((0:Int)).toNat=[0,0,0,0]:=by decide
theorem next_zero(k:Nat):(Ik_ (List.replicate k 0)).2.2≠0:=by
 unfold Ik_ lt;by_cases hk:k<4;have :(R_ ⟨List.replicate k (0:UInt8),0⟩ 4).2.err≠0:=by
   have :k=0\/k=1\/k=2\/k=3:=by omega
   rcases this with rfl|rfl|rfl|rfl<;>decide
 simp only[this,decide_false,AE,cond_true];exact this;obtain⟨m,rfl⟩:∃ m,k=4+m:=⟨k-4,by omega⟩;have e:R_ ⟨List.replicate (4+m) (0:UInt8),0⟩ 4=(0,⟨List.replicate m 0,0⟩):=by
   have :=Qt_ (r:=AH m (0:UInt8)) (n:=0) qD qD
   rw[numB4_0] at this
   rw[<- this]
   congr 2
   rw[<- DT];rfl
 have e0:A0 .i64 (0:Int)=0:=by decide
 simp only[e,e0,decide_true,A2,cond_false,cond_true];decide
def segs(rs:List Bs):Bs:=rs.flatMap Iz_
def RcOk(rs:List Bs):Prop:=∀ r∈rs,r≠[]/\r.length<=131072
theorem bytes_s:∀ (rs:List Bs) (x:Bs),RcOk rs->Ge_ rs x=(x++segs rs,0)
 |[],x,_=>by rw[Ge_.eq_1];simp[segs]
 |r::t,x,h=>by
   have⟨h1,h2⟩:=h r (AG ..)
   rw[Ge_.eq_2];unfold lt
   have h3:¬(131072:Int)<(r.length:Int):=by omega
   simp only[h1,h3,decide_false,cond_false]
   rw[bytes_s t _ (λy hy=>h y (AB _ hy))]
   simp[segs]
theorem scan_l0(k:Nat):∀ (rs:List Bs) (pre out:List Bs) (f:Nat) (used:Int),RcOk rs->used=((segs pre).length:Int)->rs.length<f->Ke_ (segs pre++(segs rs++List.replicate k 0)) f out used=(out++rs,used+(segs rs).length)
 |[],pre,out,f,used,_,hu,hf=>by
   obtain⟨f,rfl⟩:∃ q,f=q+1:=⟨f-1,by omega⟩
   rw[Ke_.eq_2];unfold lt
   have e:(segs pre++(segs []++AH k (0:UInt8))).drop used.toNat=AH k 0:=by
     rw[hu,AI,GA];rfl
   rw[e]
   have :=next_zero k
   simp only[this,decide_false,AE,cond_true]
   simp[segs]
 |r::t,pre,out,f,used,h,hu,hf=>by
   have⟨h1,h2⟩:=h r (AG ..)
   obtain⟨f,rfl⟩:∃ q,f=q+1:=⟨f-1,by omega⟩
   rw[Ke_.eq_2];unfold lt
   have e:(segs pre++(segs (r::t)++AH k (0:UInt8))).drop used.toNat=Iz_ r++(segs t++AH k 0):=by
     rw[hu,AI,GA]
     simp[segs]
   rw[e,next_one h1 h2]
   simp only[decide_true,A2,cond_false]
   have e2:segs pre++(segs (r::t)++AH k (0:UInt8))=segs (pre++[r])++(segs t++AH k 0):=by simp[segs]
   rw[e2,scan_l0 k t (pre++[r]) (out++[r]) f _ (λy hy=>h y (AB _ hy)) (by rw[hu];simp[segs,one_len h2]) nF]
   simp[segs,one_len h2];omega
theorem segs_len:∀ (rs:List Bs),RcOk rs->rs.length<=(segs rs).length
 |[],_=>by simp
 |r::t,h=>by
   have :=segs_len t (λy hy=>h y (AB _ hy))
   have h2:=one_len (h r (AG ..)).2
   simp only[segs,B9,A1,A3] at *
   omega
theorem scan_s{rs:List Bs}(h:RcOk rs)(k:Nat):Lp_ (segs rs++List.replicate k 0)=(rs,((segs rs).length:Int)):=by
 have :=segs_len rs h;have e:=scan_l0 k rs [] [] ((((segs rs++AH k (0:UInt8)).length:Int)-0).toNat+1) 0 h (by simp[segs]) (by rw[A1];omega);unfold Lp_;simp only[segs,FX,AV] at e ⊢;rw[e];simp
def ov(xs:Bs)(p:Nat)(ys:Bs):Bs:=xs.take p++(ys++xs.drop (p+ys.length))
theorem cpB_ov{xs ys:Bs}{p:Nat}(h:p+ys.length<=xs.length):cpB xs p ys=ov xs p ys:=by
 unfold cpB ov;rw[AD (l:=ys) qD]
theorem ov_len{xs ys:Bs}{p:Nat}(h:p+ys.length<=xs.length):(ov xs p ys).length=xs.length:=by
 simp only[ov,A1,B5,AM];omega
theorem ov_nil(xs:Bs)(p:Nat):ov xs p []=xs:=by simp[ov]
theorem ov_ov{xs a b:Bs}{p:Nat}(h:p+a.length+b.length<=xs.length):ov (ov xs p a) (p+a.length) b=ov xs p (a++b):=by
 have hl:(xs.take p).length=p:=by rw[B5];omega
 unfold ov;have e1:(xs.take p++(a++xs.drop (p+a.length))).take (p+a.length)=xs.take p++a:=by
   rw[<- A7,BM qQ,AD qQ]
 have e2:(xs.take p++(a++xs.drop (p+a.length))).drop (p+a.length+b.length)=xs.drop (p+(a++b).length):=by
   rw[<- A7,C5,A9 qQ,C1]
   simp only[A1,hl,AV]
   exact zD
 rw[e1,e2];simp
theorem ov_take{xs ys:Bs}{p k:Nat}(h:k<=p)(hp:p<=xs.length):(ov xs p ys).take k=xs.take k:=by
 unfold ov;rw[BM (by rw[B5];omega),EB,EJ h]
theorem ov_drop{xs ys:Bs}{p k:Nat}(h:p+ys.length<=k)(hx:p+ys.length<=xs.length):(ov xs p ys).drop k=xs.drop k:=by
 have hl:(xs.take p).length=p:=by rw[B5];omega
 unfold ov;rw[C5,hl,A9 qD,C5,A9 qD,C1];simp only[AV];exact zD
theorem ov_at{xs ys:Bs}{p:Nat}(hx:p+ys.length<=xs.length):(ov xs p ys).drop p=ys++xs.drop (p+ys.length):=by
 have hl:(xs.take p).length=p:=by rw[B5];omega
 unfold ov;rw[C5,hl,A9 qD];simp
def fol(ws:List Ht_)(x:Bs):Bs:=ws.foldl (λx w=>cpB x (w.at_*64).toNat w.data) x
def tot:List Ht_->Int
 |[]=>0
 |w::t=>(w.data.length:Int)+tot t
theorem tot0:∀ ws,0<=tot ws
 |[]=>by simp[tot]
 |w::t=>by have :=tot0 t;simp only[tot];omega
theorem waits_tot:∀ (ws:List Ht_) (n:Int),Fo_ ws n=n+tot ws
 |[],n=>by simp[Fo_,tot]
 |w::t,n=>by simp only[Fo_,tot];rw[waits_tot t];omega
theorem do_fol(d:Bi_):∀ (ws:List Ht_) (c:Int) (x:Bs),tot ws<=c->(Dy_ d ws c x).lasts=fol ws x
 |[],_,_,_=>rfl
 |w::t,c,x,h=>by
   have h0:=tot0 t
   simp only[tot] at h
   have e1:max 0 (min c (w.data.length:Int))=(w.data.length:Int):=by omega
   rw[Dy_.eq_2,e1,AI,List.take_length,do_fol d t _ _ qD]
   rfl
theorem sync_e{d:Bi_}(h:DkI d):(C1_ d).2.lasts=fol d.waits d.lasts:=by
 have⟨h1,h2,h3,h4,h5⟩:=h;unfold C1_ Hm_ Fy_ lt;simp only[h1,h2,A2,BH,cond_false];exact do_fol _ _ _ _ (by rw[waits_tot];omega)
theorem write_e{d:Bi_}(h:DkI d){at_:Int}(h0:0<=at_)(h1:at_<120){s:Bs}(hs:s.length<=64):Ap_ d at_ s=(0,(⟨d.lasts,(d.waits++[(⟨at_,s⟩:Ht_)]),d.on,d.armed,d.D8_,d.cut⟩:Bi_)):=by
 have hc:=Vv_ (d:=d) (at_:=at_) h.1 h0 oM;have hn:¬(64:Int)<(s.length:Int):=by omega
 unfold Ap_ lt;simp only[hc,hn,decide_true,decide_false,A2,cond_false]
def pad(n:Nat)(s:Bs):Bs:=s++AH (n*64-s.length) 0
theorem repZ:∀ n,Go.Lib.repeatL [0] n=List.replicate n 0
 |0=>rfl
 |n+1=>by simp[AY,repZ n,List.replicate_succ]
theorem Uw_{n:Nat}{s:Bs}(h:s.length<=n*64):(pad n s).length=n*64:=by
 simp only[pad,A1,BN];omega
theorem put_l0_d(l:C5_)(A4_ block:Int)(n:Nat)(least:Int)(s x:Bs)(ha:A4_=0\/A4_=1)(hb:0<=block)(hn:max least ((((s.length:Int)+64)-1)/64)=(n:Int))(hm:block+n<=60)(hx:x.length=7680) :
   ∀ (f v:Nat) (dk:Bi_),n-v<f->v<=n->DkI dk->dk.lasts=x->fol dk.waits x=ov x (((A4_*60+block)*64).toNat) ((pad n s).take (v*64))->∃ dk',F5_ l A4_ block least s f v dk=(0,(⟨dk',l.A4_,l.gen,l.ready,l.broken,l.done,l.waits⟩:C5_))/\DkI dk'/\dk'.waits=[]/\dk'.lasts=ov x (((A4_*60+block)*64).toNat) (pad n s)
 |0,_,_,h,_,_,_,_=>by omega
 |f+1,v,dk,h,hv,hd,hl,hw=>by
   rw[F5_.eq_2]
   unfold lt
   have hsl:s.length<=n*64:=by omega
   have hpl:=Uw_ hsl
   rw[hn]
   by_cases hc:(v:Int)<(n:Int)
   . simp only[hc,decide_true,cond_true]
     have e60:=blk60 (l:=(⟨dk,l.A4_,l.gen,l.ready,l.broken,l.done,l.waits⟩:C5_)) hd.2.2.2.1
     have e1:((n:Int)*64-(s.length:Int)).toNat=n*64-s.length:=by omega
     have e2:s++AY [0] (n*64-s.length)=pad n s:=by rw[repZ];rfl
     rw[e60,e1,e2]
     have hY:(((pad n s).drop (v*64)).take (((v+1)*64)-(v*64))).length=64:=by
       rw[B5,AM,hpl];omega
     have ht:(pad n s).take (v*64)++((pad n s).drop (v*64)).take (((v+1)*64)-(v*64))=(pad n s).take ((v+1)*64):=by
       rw[<- GI];exact zD
     generalize hYY:((pad n s).drop (v*64)).take (((v+1)*64)-(v*64))=Y at hY ht ⊢
     have h0:0<=((A4_*60)+block)+(v:Int):=by rcases ha with rfl|rfl<;>omega
     have h1:((A4_*60)+block)+(v:Int)<120:=by rcases ha with rfl|rfl<;>omega
     have hi:=(dwrite_i hd h0 h1 (s:=Y) qD).2
     rw[write_e hd h0 h1 qD] at hi ⊢
     simp only[decide_true,A2,cond_false]
     refine put_l0_d l A4_ block n least s x ha hb hn hm hx f (v+1) _ qD qD hi hl ?_
     have hpv:((pad n s).take (v*64)).length=v*64:=by rw[B5,hpl];omega
     have ep:((((A4_*60)+block)+(v:Int))*64).toNat=((A4_*60+block)*64).toNat+((pad n s).take (v*64)).length:=by rw[hpv];rcases ha with rfl|rfl<;>omega
     have hbd:((A4_*60+block)*64).toNat+((pad n s).take (v*64)).length+Y.length<=x.length:=by rw[hpv,hx,hY];rcases ha with rfl|rfl<;>omega
     simp only[fol,List.foldl_append,List.foldl_cons,List.foldl_nil]
     unfold fol at hw
     rw[hw,ep,cpB_ov (by rw[ov_len qD];omega),ov_ov hbd,ht]
   . simp only[hc,decide_false,cond_false]
     have hs:=dsync_i hd
     have he:=sync_e hd
     simp only[hs.1,decide_true,A2,cond_false]
     refine⟨_,rfl,hs.2.1,hs.2.2,?_⟩
     rw[he,hl,hw,AD qD]
theorem put_d{l:C5_}{A4_ block:Int}{n:Nat}{least:Int}{s:Bs}(ha:A4_=0\/A4_=1)(hb:0<=block)(hn:max least ((((s.length:Int)+64)-1)/64)=(n:Int))(hm:block+n<=60)(hd:DkI l.d)(hw:l.d.waits=[]) :
   ∃ dk',A2_ l A4_ block least s=(0,(⟨dk',l.A4_,l.gen,l.ready,l.broken,l.done,l.waits⟩:C5_))/\DkI dk'/\dk'.waits=[]/\dk'.lasts=ov l.d.lasts (((A4_*60+block)*64).toNat) (pad n s):=
 put_l0_d l A4_ block n least s l.d.lasts ha hb hn hm hd.2.2.2.1 _ 0 l.d (by rw[hn];omega) qD hd Z (by rw[hw];simp[fol,ov_nil])
def hdB(x:Bs)(a:Nat):Bs:=(x.drop (a*3840)).take 64
def rwB(x:Bs)(a:Nat):Bs:=(x.drop (a*3840+64)).take 3776
theorem read_e{d:Bi_}(h:DkI d)(hw:d.waits=[]){k:Int}(h0:0<=k)(h1:k<120):Bn_ d k=((d.lasts.drop (k*64).toNat).take 64,0):=by
 have hc:=Vv_ (d:=d) (at_:=k) h.1 h0 oM;unfold Bn_ lt;simp only[hc,decide_true,A2,cond_false,hw,En_];have hl:(d.lasts.drop (k*64).toNat).length=7680-(k*64).toNat:=by rw[AM,h.2.2.2.1]
 have e:cpB (AH 64 0) 0 (d.lasts.drop (k*64).toNat)=(d.lasts.drop (k*64).toNat).take 64:=by
   have h64:(AH 64 (0:UInt8)).length=64:=BN
   unfold cpB
   rw[A9 (l:=AH 64 (0:UInt8)) (by rw[h64,hl];omega),h64,GB,AV,AJ]
 rw[e]
def rdB(x:Bs)(a:Nat):Int×List Bs×Bool:=
 if (hdB x a).take 17=C3_ (R_ ⟨(hdB x a).drop 4,0⟩ 8).1 then ((R_ ⟨(hdB x a).drop 4,0⟩ 8).1,(Lp_ (rwB x a)).1,true) else (0,[],false)
theorem rd_l0{l:C5_}{a:Nat}(h:DkI l.d)(hw:l.d.waits=[])(ha:a<2)(r:Int×In):∀ (f v:Nat),59-v<f->v<=59->Hr_ l (a:Int) r 60 f v ((rwB l.d.lasts a).take (v*64))=(r.1,(Lp_ (rwB l.d.lasts a)).1,true)
 |0,_,hf,_=>by omega
 |f+1,v,hf,hv=>by
   rw[Hr_.eq_2];unfold lt
   by_cases hc:(v:Int)<(60-1)
   . simp only[hc,decide_true,cond_true]
     rw[blk60 h.2.2.2.1]
     have hk:(0:Int)<=((a:Int)*60+1)+v/\((a:Int)*60+1)+v<120:=by omega
     rw[read_e h hw hk.1 hk.2]
     have e:(rwB l.d.lasts a).take (v*64)++(l.d.lasts.drop ((((a:Int)*60+1)+(v:Int))*64).toNat).take 64=(rwB l.d.lasts a).take ((v+1)*64):=by
       have e1:((((a:Int)*60+1)+(v:Int))*64).toNat=(a*3840+64)+v*64:=by omega
       rw[e1,<- C1,Nat.add_mul,GI]
       congr 1
       unfold rwB
       rw[DG,EB]
       exact zD
     simp only[e]
     exact rd_l0 h hw ha r f (v+1) qD qD
   . simp only[hc,decide_false,cond_false]
     have e:(rwB l.d.lasts a).take (v*64)=rwB l.d.lasts a:=AD (by unfold rwB;rw[B5];omega)
     rw[e]
theorem rd_e{l:C5_}{a:Nat}(h:DkI l.d)(hw:l.d.waits=[])(ha:a<2):Hj_ l (a:Int)=rdB l.d.lasts a:=by
 unfold Hj_ rdB lt;rw[blk60 h.2.2.2.1,read_e h hw qD qD];have e2:(l.d.lasts.drop (((a:Int)*60)*64).toNat).take 64=hdB l.d.lasts a:=by
   have e1:(((a:Int)*60)*64).toNat=a*3840:=by omega
   rw[e1];rfl
 have e3:Hr_ l (a:Int) (R_ ⟨(hdB l.d.lasts a).drop 4,0⟩ 8) 60 ((((60:Int)-1)-(0:Int)).toNat+1) 0 []=((R_ ⟨(hdB l.d.lasts a).drop 4,0⟩ 8).1,(Lp_ (rwB l.d.lasts a)).1,true):=by
   have :=rd_l0 h hw ha (R_ ⟨(hdB l.d.lasts a).drop 4,0⟩ 8) ((((60:Int)-1)-(0:Int)).toNat+1) 0 qD qD
   rw[Nat.zero_mul,GB] at this
   exact this
 simp only[e2,Mj_];generalize R_ ⟨(hdB l.d.lasts a).drop 4,0⟩ 8=r at e3 ⊢;rw[e3];generalize (hdB l.d.lasts a).take 17=X;by_cases hh:X=C3_ r.1;rw[if_pos hh];simp only[hh,decide_true,A2,cond_false];rw[if_neg hh];simp only[hh,decide_false,AE,cond_true]
theorem head_s(g:Int):C3_ g=[83,84,82,87]++(numB 8 g.toNat++(numB 4 (Im_ [[83,84,82,87]++numB 8 g.toNat]).toNat++[165])):=by
 unfold C3_;rw[Gh_,Ya_,Jp_];simp[Af_,numB]
theorem head_gen{g:Int}(h0:0<=g)(h1:g<18446744073709551616){t:Bs}:(R_ ⟨(C3_ g++t).drop 4,0⟩ 8).1=g:=by
 have e:(C3_ g++t).drop 4=numB 8 g.toNat++((numB 4 (Im_ [[83,84,82,87]++numB 8 g.toNat]).toNat++[165])++t):=by
   rw[head_s];simp
 rw[e,Hl_ h0 h1]
def ArI(x:Bs)(a:Nat)(g:Int)(rs:List Bs):Prop:=hdB x a=pad 1 (C3_ g)/\rwB x a=pad 59 (segs rs)
theorem rd_ar{x:Bs}{a:Nat}{g:Int}{rs:List Bs}(h:ArI x a g rs)(hr:RcOk rs)(h0:0<=g)(h1:g<1000000):rdB x a=(g,rs,true):=by
 have⟨e1,e2⟩:=h;unfold rdB;have e3:(hdB x a).take 17=C3_ g:=by
   rw[e1];unfold pad
   rw[BM (by rw[Mj_];omega),AD (by rw[Mj_];omega)]
 have e4:(R_ ⟨(hdB x a).drop 4,0⟩ 8).1=g:=by rw[e1];exact head_gen h0 qD
 rw[e4,if_pos e3,e2];unfold pad;rw[scan_s hr]
def OtI(x:Bs)(a:Nat)(g:Int):Prop:=(rdB x a).2.2=true->(rdB x a).1<g
def pickA(d:Bi_)(f:Nat)(best:List Bs)(of:Int)(v:Nat)(A4_ gen:Int)(r:Int×List Bs×Bool):Bool×Bs×(List Bs)×Int×Bi_×C5_:=
 (bif !r.2.2 then Ew_ d f best of (v+1) A4_ gen
 else (bif ((decide (0<(r.2.1.length:Int)))&&((decide (A4_<0))||(decide (of<r.1)))) then Ew_ d f r.2.1 r.1 (v+1) (v:Int) (max gen r.1)
 else Ew_ d f best of (v+1) A4_ (max gen r.1)))
theorem X9_{d:Bi_}(h:DkI d)(hw:d.waits=[]){f:Nat}{best:List Bs}{of:Int}{v:Nat}{A4_ gen:Int}(hv:v<2):Ew_ d (f+1) best of v A4_ gen=pickA d f best of v A4_ gen (rdB d.lasts v):=by
 rw[Ew_.eq_2];unfold lt;have hc:(v:Int)<2:=by omega
 simp only[hc,decide_true,cond_true];rw[rd_e (l:=(⟨d,A4_,gen,false,false,[],[]⟩:C5_)) h hw hv];rfl
theorem open_end{d:Bi_}{f:Nat}{best:List Bs}{of:Int}{v:Nat}{A4_:Int}{gen:Int}(hv:¬v<2)(ha:0<=A4_):Ew_ d (f+1) best of v A4_ gen=(true,(gt best 0),(best.drop 1),0,d,(⟨d,A4_,gen,false,false,[],[]⟩:C5_)):=by
 rw[Ew_.eq_2];unfold lt;have hc:¬(v:Int)<2:=by omega
 have h0:¬A4_<0:=by omega
 simp only[hc,h0,decide_false,cond_false]
theorem open_ar{d:Bi_}(h:DkI d)(hw:d.waits=[]){a:Nat}(ha:a<2){g:Int}{rs:List Bs}(h1:ArI d.lasts a g rs)(hr:RcOk rs)(hn:rs≠[])(h0:1<=g)(hg:g<1000000)(ho:OtI d.lasts (1-a) g) :
   H0_ d=(true,gt rs 0,rs.drop 1,0,d,(⟨d,(a:Int),g,false,false,[],[]⟩:C5_)):=by
 have hL:(0:Int)<(rs.length:Int):=by have :=List.length_pos_iff.2 hn;omega
 have hb:¬Bk_ d<4:=by
   have :T_ (⟨d,0,0,false,false,[],[]⟩:C5_)=60:=blk60 h.2.2.2.1
   unfold T_ lt at this
   simp only at this;omega
 have hon:Hf_ d=true:=h.1;have hrd:=rd_ar h1 hr qD hg;have hneg:((-1:Int)<0):=by decide
 unfold H0_ lt;simp only[hon,hb,decide_false,A2,cond_false];unfold OtI at ho;rw[show 2-0+1=1+1+1 from rfl,X9_ h hw qD];have ha':a=0\/a=1:=by omega
 rcases ha' with rfl|rfl
 . simp only[GW] at ho
   unfold pickA
   rw[hrd]
   simp only[hL,hneg,decide_true,A2,cond_false,FC,EM,cond_true]
   rw[X9_ h hw qD]
   unfold pickA
   rw[show 0+1=1 from rfl]
   generalize rdB d.lasts 1=r at ho ⊢
   cases e:r.2.2 with
   |false=>
     simp only[AE,cond_true]
     rw[open_end qD qD,show max 0 g=g by omega]
   |true=>
     have :=ho e
     have q:¬g<r.1:=by omega
     have q2:¬((0:Nat):Int)<0:=by decide
     simp only[q,q2,decide_false,A2,cond_false,EX,GC]
     rw[open_end qD qD,show max (max 0 g) r.1=g by omega]
 . simp only[CQ] at ho
   unfold pickA
   generalize rdB d.lasts 0=r at ho ⊢
   have fin:∀ (best:List Bs) (of A4_ gen:Int),(A4_<0\/of<g)->gen<=g->Ew_ d (1+1) best of (0+1) A4_ gen=(true,gt rs 0,rs.drop 1,0,d,(⟨d,((1:Nat):Int),g,false,false,[],[]⟩:C5_)):=by
     intro best of A4_ gen h2 h3
     rw[X9_ h hw qD]
     unfold pickA
     rw[show 0+1=1 from rfl,hrd]
     have q:(decide (A4_<0) || decide (of<g))=true:=by
       rcases h2 with h2|h2<;>simp[h2]
     simp only[hL,q,decide_true,A2,cond_false,EM,cond_true]
     rw[open_end qD qD,show max gen g=g by omega]
   cases e:r.2.2 with
   |false=>
     simp only[AE,cond_true]
     exact fin _ _ _ _ (.inl hneg) qD
   |true=>
     have :=ho e
     simp only[A2,cond_false,hneg,decide_true,FC,BU]
     by_cases q:(0:Int)<(r.2.1.length:Int)
     . simp only[q,decide_true,cond_true]
       exact fin _ _ _ _ (.inr this) qD
     . simp only[q,decide_false,cond_false]
       exact fin _ _ _ _ (.inl hneg) qD
end Go.SW.V
set_option maxRecDepth 8000
namespace Go.SW.V
open Go.SW
theorem ov_far{xs ys:Bs}{p k m:Nat}(hx:p+ys.length<=xs.length)(h:k+m<=p\/p+ys.length<=k):((ov xs p ys).drop k).take m=(xs.drop k).take m:=by
 rcases h with h|h
 rw[GD,GD,ov_take qD qD];rw[ov_drop h hx]
theorem ov_in{xs ys:Bs}{p st m:Nat}(h0:st<=p)(h1:p+ys.length<=st+m)(h2:st+m<=xs.length):((ov xs p ys).drop st).take m=ov ((xs.drop st).take m) (p-st) ys:=by
 unfold ov;have hl:(xs.take p).length=p:=by rw[B5];omega
 rw[List.drop_append_of_le_length qD,C4,AD (l:=(xs.take p).drop st) (by rw[AM];omega),C4,AD (l:=ys) (by rw[AM];omega)];rw[DG,EB,EJ qD,DG,C1]
 congr 2
 . have e:(List.take (p-st) (List.drop st xs)).length=p-st:=by rw[B5,AM];omega
   rw[e]
   congr 1
   omega
   exact zD
theorem ov_here{xs ys:Bs}{p:Nat}(hx:p+ys.length<=xs.length):((ov xs p ys).drop p).take ys.length=ys:=by
 rw[ov_at hx,List.take_left]
structure LcI(l:C5_)(rs ws:List Bs):Prop where
 lg:LgI l
 ro:RcOk rs
 wo:RcOk ws
 ne:rs≠[]
 dn:l.done=segs rs
 wt:l.waits=segs ws
 sz:l.done.length+l.waits.length<=3776
 ge:1<=l.gen
 ar:∃ a:Nat,a<2/\l.A4_=(a:Int)/\ArI l.d.lasts a l.gen rs/\OtI l.d.lasts (1-a) l.gen
theorem pad_seg{s:Bs}(h:s.length<=3776):max (59:Int) ((((s.length:Int)+64)-1)/64)=((59:Nat):Int):=by omega
theorem three_c{l:C5_}{a:Int}{b:Nat}(hb:b<2)(hab:a=(b:Int)){s:Bs}(hd:DkI l.d)(hw:l.d.waits=[])(hs:s.length<=3776)(g:Int) :
   ∃ d1 d2 d3,A2_ l a 0 1 []=(0,(⟨d1,l.A4_,l.gen,l.ready,l.broken,l.done,l.waits⟩:C5_))/\DkI d1/\A2_ (⟨d1,l.A4_,l.gen,l.ready,l.broken,l.done,l.waits⟩:C5_) a 1 ((T_ (⟨d1,l.A4_,l.gen,l.ready,l.broken,l.done,l.waits⟩:C5_))-1) s=(0,(⟨d2,l.A4_,l.gen,l.ready,l.broken,l.done,l.waits⟩:C5_))/\DkI d2/\A2_ (⟨d2,l.A4_,l.gen,l.ready,l.broken,l.done,l.waits⟩:C5_) a 0 1 (C3_ g)=(0,(⟨d3,l.A4_,l.gen,l.ready,l.broken,l.done,l.waits⟩:C5_))/\DkI d3/\d3.waits=[] /\
     hdB d3.lasts b=pad 1 (C3_ g)/\rwB d3.lasts b=pad 59 s/\rdB d3.lasts (1-b)=rdB l.d.lasts (1-b):=by
 subst hab;have ha:(b:Int)=0\/(b:Int)=1:=by omega
 have hx:=hd.2.2.2.1;have n1:max (1:Int) (((((([]:Bs).length:Int))+64)-1)/64)=((1:Nat):Int):=by decide
 have⟨d1,e1,h1,w1,b1⟩:=put_d (l:=l) (A4_:=(b:Int)) (block:=0) (n:=1) (least:=1) (s:=[]) ha qD n1 qD hd hw;have hbk:=blk60 (l:=(⟨d1,l.A4_,l.gen,l.ready,l.broken,l.done,l.waits⟩:C5_)) h1.2.2.2.1;have⟨d2,e2,h2,w2,b2⟩:=put_d (l:=(⟨d1,l.A4_,l.gen,l.ready,l.broken,l.done,l.waits⟩:C5_)) (A4_:=(b:Int)) (block:=1) (n:=59) (least:=(T_ (⟨d1,l.A4_,l.gen,l.ready,l.broken,l.done,l.waits⟩:C5_))-1) (s:=s) ha qD (by rw[hbk];exact pad_seg hs) qD h1 w1;have n3:max (1:Int) (((((C3_ g).length:Int)+64)-1)/64)=((1:Nat):Int):=by rw[Mj_];decide
 have⟨d3,e3,h3,w3,b3⟩:=put_d (l:=(⟨d2,l.A4_,l.gen,l.ready,l.broken,l.done,l.waits⟩:C5_)) (A4_:=(b:Int)) (block:=0) (n:=1) (least:=1) (s:=C3_ g) ha qD n3 qD h2 w2;have p0:((((b:Int)*60)+0)*64).toNat=b*3840:=by omega
 have p1:((((b:Int)*60)+1)*64).toNat=b*3840+64:=by omega
 simp only[p0,p1] at b1 b2 b3;have l1:(pad 1 ([]:Bs)).length=64:=Uw_ qI;have l2:(pad 59 s).length=3776:=Uw_ qD;have l3:(pad 1 (C3_ g)).length=64:=Uw_ (by rw[Mj_];omega);have x1:=h1.2.2.2.1;have x2:=h2.2.2.2.1;refine⟨d1,d2,d3,e1,h1,e2,h2,e3,h3,w3,?_,?_,?_⟩;unfold hdB;rw[b3,<- l3,ov_here (by rw[l3,x2];omega)];unfold rwB;rw[b3,ov_drop (by rw[l3];omega) (by rw[l3,x2];omega),b2,<- l2,ov_here (by rw[l2,x1];omega)];have far:∀ k m,(k+m<=b*3840\/b*3840+3840<=k)->(d3.lasts.drop k).take m=(l.d.lasts.drop k).take m:=λk m h=>by
   rw[b3,ov_far (by rw[l3,x2];omega) (by rw[l3];omega),b2,ov_far (by rw[l2,x1];omega) (by rw[l2];omega),b1,ov_far (by rw[l1,hx];omega) (by rw[l1];omega)]
 have eh:hdB d3.lasts (1-b)=hdB l.d.lasts (1-b):=far _ _ qD;have er:rwB d3.lasts (1-b)=rwB l.d.lasts (1-b):=far _ _ qD;unfold rdB;rw[eh,er]
theorem seg1_s{x:Bs}(h0:x≠[])(h:x.length<=131072):B3_ [x]=(segs [x],0):=by
 unfold B3_;rw[bytes_s [x] [] (λr hr=>by rw[List.mem_singleton.1 hr];exact⟨h0,h⟩)];rfl
theorem begin_c{l:C5_}{x:Bs}(hd:DkI l.d)(hw:l.d.waits=[])(hb:l.broken=false)(hg:0<=l.gen/\l.gen<1000)(h0:x≠[])(h:x.length<=131072)(ho:OtI l.d.lasts (if l.A4_=0 then 0 else 1) (l.gen+1)) :
   Eg_ l x=(17,l)\/∃ d' a,Eg_ l x=(0,(⟨d',a,l.gen+1,true,false,segs [x],[]⟩:C5_))/\LcI (⟨d',a,l.gen+1,true,false,segs [x],[]⟩:C5_) [x] []:=by
 have hwr:A0 .u64 (l.gen+1)=l.gen+1:=by rw[DM];omega
 have hro:RcOk [x]:=λr hr=>by rw[List.mem_singleton.1 hr];exact⟨h0,h⟩
 unfold Eg_ lt;rw[hb];simp only[cond_false,seg1_s h0 h,decide_true,A2];rw[row60 hd.2.2.2.1];by_cases h2:(3776:Int)<((segs [x]).length:Int);left;simp only[h2,decide_true,cond_true];have h3:¬l.gen=18446744073709551615:=by omega
 have hs:(segs [x]).length<=3776:=by omega
 simp only[h2,h3,decide_false,cond_false];right;by_cases h4:l.A4_=0;simp only[h4,decide_true,cond_true];rw[if_pos h4] at ho;have⟨d1,d2,d3,e1,g1,e2,g2,e3,g3,w3,q1,q2,q3⟩:=three_c (l:=l) (a:=1) (b:=1) qD Z (s:=segs [x]) hd hw hs (l.gen+1);rw[h4,hb] at e1 e2 e3;simp only[e1,e2,hwr,e3,decide_true,A2,cond_false];refine⟨d3,1,rfl,⟨⟨g3,w3,rfl,rfl, .inr Z,hs,by simp⟩,hro,λ_ h=>qS,by simp,rfl,rfl,by simpa using hs,by simp only[];omega,1,by omega,rfl,⟨q1,q2⟩,?_⟩⟩;unfold OtI at ho ⊢;simp only[CQ] at q3 ⊢;rw[q3];exact ho;simp only[h4,decide_false,cond_false];rw[if_neg h4] at ho;have⟨d1,d2,d3,e1,g1,e2,g2,e3,g3,w3,q1,q2,q3⟩:=three_c (l:=l) (a:=0) (b:=0) qD Z (s:=segs [x]) hd hw hs (l.gen+1);rw[hb] at e1 e2 e3;simp only[e1,e2,hwr,e3,decide_true,A2,cond_false];refine⟨d3,0,rfl,⟨⟨g3,w3,rfl,rfl, .inl Z,hs,by simp⟩,hro,λ_ h=>qS,by simp,rfl,rfl,by simpa using hs,by simp only[];omega,0,by omega,rfl,⟨q1,q2⟩,?_⟩⟩;unfold OtI at ho ⊢;simp only[GW] at q3 ⊢;rw[q3];exact ho
set_option maxRecDepth 8000
theorem append_c{l:C5_}{rs ws:List Bs}(h:LcI l rs ws){x:Bs}(h0:x≠[])(h1:x.length<=131072) :
   B1_ l [x]=(17,l)\/∃ l',B1_ l [x]=(0,l')/\LcI l' rs (ws++[x])/\l'.gen=l.gen:=by
 have hc:F9_ l=0:=by unfold F9_;rw[h.lg.2.2.1,h.lg.2.2.2.1];rfl
 have hr:=(room_f l).2.1 h.lg.2.2.1;rw[row60 h.lg.1.2.2.2.1] at hr;unfold B1_ lt;rw[hc,seg1_s h0 h1,hr];simp only[decide_true,A2,cond_false];by_cases q:(3776:Int)-(l.done.length:Int)-(l.waits.length:Int)<((segs [x]).length:Int);left;simp only[q,decide_true,cond_true];right;simp only[q,decide_false,cond_false];have⟨a1,a2,a3,a4,a5,a6,a7⟩:=h.lg;refine⟨_,rfl,⟨⟨a1,a2,a3,a4,a5,a6,?_⟩,h.ro,λr hr=>?_,h.ne,h.dn,?_,?_,h.ge,h.ar⟩,rfl⟩;exact sF
 . rcases List.mem_append.1 hr with q|q
   exact h.wo r q
   rw[List.mem_singleton.1 q];exact⟨h0,h1⟩
 simp only[h.wt,segs,List.flatMap_append];exact sF
theorem pad_more{s t:Bs}{k n:Nat}(hk:k*64<=s.length)(hs:s.length+t.length<=3776)(hn:n=((s.length-k*64)+t.length+63)/64):ov (pad 59 s) (k*64) (pad n (s.drop (k*64)++t))=pad 59 (s++t):=by
 have hl:(s.drop (k*64)++t).length=(s.length-k*64)+t.length:=by rw[A1,AM]
 have hp:(pad n (s.drop (k*64)++t)).length=n*64:=Uw_ (by rw[hl];omega);have e:(s++AH (59*64-s.length) (0:UInt8)).drop (k*64+n*64)=AH (59*64-(k*64+n*64)) 0:=by
   rw[C5,A9 (l:=s) (i:=k*64+n*64) qD,AV,List.drop_replicate]
   exact zD
 unfold ov;rw[hp];unfold pad;rw[BM hk,e,hl,A1];have e2:s.take (k*64)++(s.drop (k*64)++t++AH (n*64-(s.length-k*64+t.length)) (0:UInt8)++AH (59*64-(k*64+n*64)) 0)=(s.take (k*64)++s.drop (k*64))++(t++(AH (n*64-(s.length-k*64+t.length)) (0:UInt8)++AH (59*64-(k*64+n*64)) 0)):=by simp only[A7]
 rw[e2,B6,DT,A7]
 congr 3
 omega
theorem commit_c{l:C5_}{rs ws:List Bs}(h:LcI l rs ws):∃ l',Jz_ l=(0,l')/\LcI l' (rs++ws) []/\l'.gen=l.gen:=by
 have hc:F9_ l=0:=by unfold F9_;rw[h.lg.2.2.1,h.lg.2.2.2.1];rfl
 unfold Jz_ lt;rw[hc];by_cases hw:l.waits=[]
 . simp only[hw,decide_true,A2,Bool.or_true,cond_true]
   have :ws=[]:=by
     have e:=h.wt;rw[hw] at e
     cases ws with
     |nil=>rfl
     |cons r t=>
       have :=segs_len (r::t) h.wo
       rw[<- e] at this;simp at this
   subst this
   refine⟨_,rfl,?_,rfl⟩
   rw[AJ];exact h
 simp only[hw,decide_true,decide_false,A2,EX,cond_false];have⟨a,ha,hab,⟨q1,q2⟩,q3⟩:=h.ar;have⟨a1,a2,a3,a4,a5,a6,a7⟩:=h.lg;have hsz:=h.sz;have hx:=a1.2.2.2.1;have hfrom:((l.done.length:Int)/64)=((l.done.length/64:Nat):Int):=by omega
 have e64:(((l.done.length:Int)/64)*64).toNat=(l.done.length/64)*64:=by omega
 rw[e64];generalize hk:l.done.length/64=k at hfrom ⊢;have hkl:k*64<=l.done.length:=by omega
 have hl:(l.done.drop (k*64)++l.waits).length=(l.done.length-k*64)+l.waits.length:=by rw[A1,AM]
 generalize hn:((l.done.length-k*64)+l.waits.length+63)/64=n;have hn1:max (0:Int) ((((l.done.drop (k*64)++l.waits).length:Int)+64-1)/64)=(n:Int):=by rw[hl];omega
 have hb0:(0:Int)<=1+(l.done.length:Int)/64:=by omega
 have hb1:1+(l.done.length:Int)/64+(n:Int)<=60:=by omega
 have⟨d1,e1,g1,w1,b1⟩:=put_d (l:=l) (A4_:=l.A4_) (block:=1+(l.done.length:Int)/64) (n:=n) (least:=0) (s:=l.done.drop (k*64)++l.waits) a5 hb0 hn1 hb1 a1 a2;rw[e1];simp only[decide_true,A2,cond_false];have hp:(pad n (l.done.drop (k*64)++l.waits)).length=n*64:=Uw_ (by rw[hl];omega);have ep:(((l.A4_*60)+(1+(l.done.length:Int)/64))*64).toNat=a*3840+64+k*64:=by rw[hab,hfrom];omega
 rw[ep] at b1;have hbd:a*3840+64+k*64+(pad n (l.done.drop (k*64)++l.waits)).length<=l.d.lasts.length:=by rw[hp,hx];omega
 have far:∀ j m,(j+m<=a*3840+64\/a*3840+3840<=j)->(d1.lasts.drop j).take m=(l.d.lasts.drop j).take m:=λj m hj=>by
   rw[b1,ov_far hbd (by rw[hp];omega)]
 have eh:hdB d1.lasts a=hdB l.d.lasts a:=far _ _ qD;have eo:rdB d1.lasts (1-a)=rdB l.d.lasts (1-a):=by
   have e1:hdB d1.lasts (1-a)=hdB l.d.lasts (1-a):=far _ _ qD
   have e2:rwB d1.lasts (1-a)=rwB l.d.lasts (1-a):=far _ _ qD
   unfold rdB;rw[e1,e2]
 have er:rwB d1.lasts a=pad 59 (segs (rs++ws)):=by
   unfold rwB at q2 ⊢
   rw[b1,ov_in qD (by rw[hp];omega) (by rw[hx];omega),q2,show a*3840+64+k*64-(a*3840+64)=k*64 by omega,<- h.dn,pad_more hkl hsz hn.symm,h.dn,h.wt]
   simp[segs]
 have hdw:l.done++l.waits=segs (rs++ws):=by rw[h.dn,h.wt];simp[segs]
 refine⟨_,rfl,⟨⟨g1,w1,a3,a4,a5,by simp only[A1];omega,by simp⟩,λr hr=>?_,λ_ h=>qS,?_,hdw,rfl,by simp only[A1,A6];omega,h.ge,a,ha,hab,⟨by rw[eh];exact q1,er⟩,?_⟩,rfl⟩
 . rcases List.mem_append.1 hr with q|q
   exact h.ro r q
   exact h.wo r q
 intro e;exact h.ne (List.append_eq_nil_iff.1 e).1;unfold OtI at q3 ⊢;rw[eo];exact q3
theorem open_c{l:C5_}{rs:List Bs}(h:LcI l rs [])(hg:l.gen<1000):∃ a:Nat,a<2/\H0_ l.d=(true,gt rs 0,rs.drop 1,0,l.d,(⟨l.d,(a:Int),l.gen,false,false,[],[]⟩:C5_))/\OtI l.d.lasts (if (a:Int)=0 then 0 else 1) (l.gen+1):=by
 have⟨a,ha,hab,hA,hO⟩:=h.ar;refine⟨a,ha,open_ar h.lg.1 h.lg.2.1 ha hA h.ro h.ne h.ge qD hO,?_⟩;have e:(if (a:Int)=0 then 0 else 1)=a:=by
   exact yK
 exact tC
theorem lput_fwd{l:Ax_}{x:Z_}(hm:Hs_ x.Ah_=0)(hl:l.items.length<64)(hr:∀ y∈l.items,y.Ah_.id<x.Ah_.id):F7_ l x=(⟨l.items++[x]⟩,0):=by
 have hc:G2_ l x.Ah_=0:=by
   unfold G2_
   have e1:decide (Hs_ x.Ah_=0)=true:=decide_eq_true hm
   rw[e1]
   simp only[A2,cond_false]
   have e2:((decide (0<(l.items.length:Int)))&&(decide (x.Ah_.id<=((gt l.items ((((l.items.length:Int)-1)).toNat)).Ah_.id))))=false:=by
     rw[D8,decide_eq_false_iff_not,decide_eq_false_iff_not]
     by_cases q:0<(l.items.length:Int)
     . right
       have :=hr _ (I2_ (xs:=l.items) (k:=((l.items.length:Int)-1).toNat) qD)
       omega
     . exact .inl q
   have e3:decide (64<=(l.items.length:Int))=false:=decide_eq_false qD
   rw[e2,e3];rfl
 unfold F7_;rw[lt,hc];simp[Ck_,lt,K_]
theorem lof_fwd0:∀ (t:List Z_) (l:Ax_),Rm_ (l.items++t)->(l.items++t).length<=64->(∀ x∈t,Hs_ x.Ah_=0)->Is_ t l=(⟨l.items++t⟩,0)
 |[],l,_,_,_=>by rw[Is_];simp
 |x::t,l,hr,hl,hm=>by
   have h1:∀ y∈l.items,y.Ah_.id<x.Ah_.id:=λy hy=>by
     have :=hr
     unfold Rm_ at this
     rw[BK,BC,List.pairwise_append] at this
     exact this.2.2 y.Ah_.id (List.mem_map.2 ⟨y,hy,rfl⟩) x.Ah_.id qI
   simp only[A1,A3] at hl
   rw[Is_,lt,lput_fwd (hm x qI) qD h1]
   simp only[decide_true,A2,cond_false]
   rw[lof_fwd0 t ⟨l.items++[x]⟩ (by simpa using hr) nG (λy hy=>hm y pA)]
   simp
theorem lof_fwd{l:Ax_}(h:LnOk l)(hm:∀ x∈l.items,Hs_ x.Ah_=0):Us_ l.items=(l,0):=by
 unfold Us_;rw[lof_fwd0 l.items ⟨[]⟩ (by simpa using h.2.2) (by simpa using h.1) hm];rfl
theorem flag_r(x:Z_):0<=Ee_ x/\Ee_ x<=3:=by
 have h3:A0 .u64 (1+2)=3:=by decide
 have h2:A0 .u64 (0+2)=2:=by decide
 unfold Ee_;rw[h2,h3]
 cases x.Zv_<;>cases x.again<;>decide
theorem flag_back(x:Z_):(⟨x.Ah_,decide ((Ee_ x%2)=1),decide ((Ee_ x/2)=1)⟩:Z_)=x:=by
 have h3:A0 .u64 (1+2)=3:=by decide
 have h2:A0 .u64 (0+2)=2:=by decide
 have⟨m,a,b⟩:=x;unfold Ee_;rw[h2,h3]
 cases a<;>cases b<;>rfl
def ItF(next :Int)(x:Z_):Prop:=MlF x.Ah_/\(next = 0\/x.Ah_.id < next)
theorem items_fwd(s:I_)(r:Bs×In)(r1 r2:Int×In)(r3:Bs×In)(rest:Bs):∀ (t:List Z_) (f:Nat) (acc:List Z_),t.length<f->t.length<=255->(∀ x∈t,ItF s.next x)->Bg_ s r r1 r2 r3 f acc (t.length:Int) ⟨t.flatMap N3_++rest,0⟩=Bg_ s r r1 r2 r3 1 (acc++t) 0 ⟨rest,0⟩
 |_,0,_,h,_,_=>by omega
 |[],f+1,acc,_,_,_=>by
   rw[Bg_.eq_2,Bg_.eq_2]
   simp
 |x::t,f+1,acc,hf,hl,hx=>by
   have⟨h1,h2⟩:=hx x qI
   simp only[A3] at hf hl
   have hfl:=flag_r x
   have e1:R_ ⟨(x::t).flatMap N3_++rest,0⟩ 1=(Ee_ x,⟨B0_ x.Ah_++(t.flatMap N3_++rest),0⟩):=by
     rw[B9,N3_]
     simp only[A7]
     exact Jj_ hfl.1 qD
   have e2:De_ ⟨B0_ x.Ah_++(t.flatMap N3_++rest),0⟩=(x.Ah_,⟨t.flatMap N3_++rest,0⟩):=mail_fwd h1
   rw[Bg_.eq_2]
   have e:decide (0<(((x::t).length:Nat):Int))=true:=decide_eq_true oT
   rw[e]
   simp only[decide_true,BU,cond_true]
   rw[lt,e1,lt,e2]
   have c1:decide (3<Ee_ x)=false:=decide_eq_false qD
   have c2:((!decide (s.next = 0))&&(decide (s.next <= x.Ah_.id)))=false:=by
     rw[D8,AN,decide_eq_true_eq,decide_eq_false_iff_not]
     rcases h2 with q|q
     . exact .inl q
     . exact .inr qD
   rw[c1,c2]
   simp only[DJ,cond_false]
   have hw:A0 .u64 ((((x::t).length:Nat):Int)-1)=(t.length:Int):=by
     exact uZ
   rw[hw,flag_back,items_fwd s r r1 r2 r3 rest t f (acc++[x]) qD qD (λy hy=>hx y pA)]
   simp
def RwF(next :Int)(r:Go_):Prop:=LnOk r.l/\Bw_ r.q=0/\U64 r.q.most/\U64 r.q.life/\(r.l.items.length:Int)<=r.q.most/\∀ x∈r.l.items,ItF next x
theorem at_none{s:I_}{n:Bs}(h:∀ r∈s.rows,r.q.name≠n):O_ s n<0:=by
 by_cases q:0<=O_ s n;have h1:=at_b s n;exact (h _ (I2_ (xs:=s.rows) (k:=(O_ s n).toNat) qD) (at_n q)).elim;omega
theorem make_fwd{s:I_}{q:M_}(hc:Bw_ q=0)(hn:∀ r∈s.rows,r.q.name≠q.name)(hl:s.rows.length<8):Bb_ s q=(⟨s.next,s.bytes,s.rows++[⟨q,⟨[]⟩⟩],s.rises⟩,0):=by
 have ha:=at_none hn;unfold Bb_;rw[lt,hc,lt];have e1:decide (0<=O_ s q.name)=false:=decide_eq_false qD;have e2:decide (8<=(s.rows.length:Int))=false:=decide_eq_false qD;rw[e1,e2];simp
theorem rrow_fwd{s:I_}{r:Go_}(h:RwF s.next r)(hn:∀ y∈s.rows,y.q.name≠r.q.name)(hl:s.rows.length<8){rest:Bs}:Cw_ s ⟨rowB r++rest,0⟩=(⟨s.next,s.bytes,s.rows++[r],s.rises⟩,⟨rest,0⟩):=by
 have⟨h1,h2,h3,h4,h5,h6⟩:=h;have⟨q1,q2,q3,q4⟩:=Tw_ h2;have h64:=h1.1;have e1:V_ ⟨rowB r++rest,0⟩ 16=(r.q.name,⟨numB 8 r.q.most.toNat++(numB 8 r.q.life.toNat++(txtB r.q.dead++(numB 1 r.l.items.length++(r.l.items.flatMap N3_++rest)))),0⟩):=by
   rw[rowB]
   exact sD
 have e2:R_ ⟨numB 8 r.q.most.toNat++(numB 8 r.q.life.toNat++(txtB r.q.dead++(numB 1 r.l.items.length++(r.l.items.flatMap N3_++rest)))),0⟩ 8=(r.q.most,⟨numB 8 r.q.life.toNat++(txtB r.q.dead++(numB 1 r.l.items.length++(r.l.items.flatMap N3_++rest))),0⟩):=Hl_ h3.1 (by have :=h3.2;omega);have e3:R_ ⟨numB 8 r.q.life.toNat++(txtB r.q.dead++(numB 1 r.l.items.length++(r.l.items.flatMap N3_++rest))),0⟩ 8=(r.q.life,⟨txtB r.q.dead++(numB 1 r.l.items.length++(r.l.items.flatMap N3_++rest)),0⟩):=Hl_ h4.1 (by have :=h4.2;omega);have e4:V_ ⟨txtB r.q.dead++(numB 1 r.l.items.length++(r.l.items.flatMap N3_++rest)),0⟩ 16=(r.q.dead,⟨numB 1 r.l.items.length++(r.l.items.flatMap N3_++rest),0⟩):=Kg_;have e5:R_ ⟨numB 1 r.l.items.length++(r.l.items.flatMap N3_++rest),0⟩ 1=((r.l.items.length:Int),⟨r.l.items.flatMap N3_++rest,0⟩):=I7_ qD;unfold Cw_;rw[lt,e1,lt,e2,lt,e3,lt,e4,lt,e5];dsimp only;rw[items_fwd s _ _ _ _ rest r.l.items _ [] qD qD h6,Bg_.eq_2];have c1:decide ((0:Int)<0)=false:=by decide
 rw[c1];simp only[BH,cond_false,AV];rw[lt,lof_fwd h1 (λx hx=>(h6 x hx).1.2.2),lt1];have hw:A0 .u64 (Fe_ r.l)=(r.l.items.length:Int):=Bp_ (show (0:Int)<=(r.l.items.length:Int) by omega) (h1:=show (r.l.items.length:Int)<=_ by omega);have ha:=at_none hn;have c2:decide (r.q.most<(r.l.items.length:Int))=false:=decide_eq_false qD;have c3:decide (0<=O_ s r.q.name)=false:=decide_eq_false qD;dsimp only;rw[hw,c2,c3];simp only[DJ,cond_false,Vz_];rw[lt,show (⟨r.q.name,r.q.most,r.q.life,r.q.dead⟩:M_)=r.q from rfl,make_fwd h2 hn hl];simp only[Vz_,decide_true,cond_true];rw[lt];unfold Ak_;dsimp only;have hk:(((s.rows++[(⟨r.q,⟨[]⟩⟩:Go_)]).length:Int)-1).toNat=s.rows.length:=by simp
 rw[hk];have hg:gt (s.rows++[(⟨r.q,⟨[]⟩⟩:Go_)]) s.rows.length=⟨r.q,⟨[]⟩⟩:=by simp[gt]
 rw[hg];simp
def KF(s:I_):Prop:=StkOk s/\RoB s/\U64 s.next /\ (∀ r∈s.rows,RwF s.next r)/\∀ i,i<16->RiF (A16.get s.rises i)
theorem rows_fwd(text:Bs)(rest:Bs):∀ (t:List Go_) (f:Nat) (s:I_),t.length<f->s.rows.length+t.length<=8->(∀ r∈t,RwF s.next r)->((s.rows++t).map (·.q.name)).Nodup->Gs_ text f (t.length:Int) ⟨t.flatMap rowB++rest,0⟩ s=Gs_ text 1 0 ⟨rest,0⟩ ⟨s.next,s.bytes,s.rows++t,s.rises⟩
 |_,0,_,h,_,_,_=>by omega
 |[],f+1,s,_,_,_,_=>by
   rw[Gs_.eq_2,Gs_.eq_2]
   simp
 |r::t,f+1,s,hf,hl,hr,hn=>by
   simp only[A3] at hf hl
   have hn1:∀ y∈s.rows,y.q.name≠r.q.name:=λy hy=>by
     rw[BK,BW] at hn
     exact hn.2.2 y.q.name (List.mem_map.2 ⟨y,hy,rfl⟩) r.q.name qI
   have e1:Cw_ s ⟨(r::t).flatMap rowB++rest,0⟩=(⟨s.next,s.bytes,s.rows++[r],s.rises⟩,⟨t.flatMap rowB++rest,0⟩):=by
     rw[B9,A7]
     exact rrow_fwd (hr r qI) hn1 qD
   rw[Gs_.eq_2]
   have e:decide (0<(((r::t).length:Nat):Int))=true:=decide_eq_true oT
   rw[e]
   simp only[decide_true,BU,cond_true]
   rw[lt,e1]
   have hw:A0 .u64 ((((r::t).length:Nat):Int)-1)=(t.length:Int):=by
     exact uZ
   rw[hw,rows_fwd text rest t f ⟨s.next,s.bytes,s.rows++[r],s.rises⟩ qD nG (λy hy=>hr y pA) (by simpa using hn)]
   simp
theorem ups_fwd(a:A16_RiseR)(ha:∀ i,i<16->RiF (A16.get a i)):∀ (n f:Nat) (s:I_),n<=16->upN a n<f->(∀ i,i<16->A16.get s.rises i = if i<16-n then A16.get a i else ⟨0,[]⟩)->∃ z:A16_RiseR,(∀ i,i<16->A16.get z i=A16.get a i)/\H3_ f (upN a n:Int) ⟨upB a n,0⟩ s=(⟨[],0⟩,⟨s.next,s.bytes,s.rows,z⟩)
 |0,f,s,_,hf,h=>by
   refine⟨s.rises,λi hi=>by rw[h i hi,if_pos qD],?_⟩
   obtain⟨g,rfl⟩:∃ g,f=g+1:=⟨f-1,by omega⟩
   rw[H3_]
   simp[upN,upB]
 |n+1,f,s,hn,hf,h=>by
   by_cases q:0<(A16.get a (15-n)).total
   . rw[upN,if_pos q] at hf ⊢
     rw[upB,if_pos q]
     obtain⟨g,rfl⟩:∃ g,f=g+1:=⟨f-1,by omega⟩
     have hle:=upN_le a n
     have e1:R_ ⟨(numB 1 (15-n)++Bu_ (A16.get a (15-n)))++upB a n,0⟩ 1=(((15-n:Nat):Int),⟨Bu_ (A16.get a (15-n))++upB a n,0⟩):=by
       rw[A7]
       exact I7_ qD
     have⟨z,hz1,hz2⟩:=ups_fwd a ha n g ⟨s.next,s.bytes,s.rows,A16.set s.rises (A16.get a (15-n)) (15-n)⟩ qD qD (λi hi=>by
       show A16.get (A16.set s.rises (A16.get a (15-n)) (15-n)) i=_
       rw[A16.get_set _ _ _ _ qD hi]
       by_cases q2:i=15-n
       . subst q2
         rw[if_pos rfl,if_pos qD]
       . rw[if_neg qD,h i hi]
         by_cases q3:i<16-(n+1)
         . rw[if_pos q3,if_pos qD]
         . rw[if_neg q3,if_neg qD])
     refine⟨z,hz1,?_⟩
     rw[H3_]
     have e:decide (0<((1+upN a n:Nat):Int))=true:=decide_eq_true qD
     rw[e]
     simp only[decide_true,BU,cond_true]
     rw[lt,e1,lt,rread_fwd (ha _ qD)]
     have e3:decide (16<=((15-n:Nat):Int))=false:=decide_eq_false qD
     dsimp only
     rw[e3,cond_false]
     have hw:A0 .u64 (((1+upN a n:Nat):Int)-1)=(upN a n:Int):=by
       exact uY
     rw[hw]
     exact hz2
   . rw[upN,if_neg q,BD] at hf ⊢
     rw[upB,if_neg q,AV]
     refine ups_fwd a ha n f s qD hf (λi hi=>?_)
     rw[h i hi]
     by_cases q2:i<16-(n+1)
     . rw[if_pos q2,if_pos qD]
     . rw[if_neg q2]
       by_cases q3:i<16-n
       . rw[if_pos q3]
         have hi2:i=15-n:=by omega
         subst hi2
         have⟨h1,h2,_⟩:=ha (15-n) qD
         generalize A16.get a (15-n)=w at q h1 h2
         have⟨t,l⟩:=w
         have ht:t=0:=by have :=h1.1;simp only at this q;omega
         subst ht
         have hl:l=[]:=List.length_eq_zero_iff.1 (by simp only at h2;omega)
         rw[hl]
       . rw[if_neg q3]
theorem a16_ext{α:Type}{a b:A16 α}(h:∀ i,i<16->A16.get a i=A16.get b i):a=b:=by
 have h0:=h 0 qF;have h1:=h 1 qF;have h2:=h 2 qF;have h3:=h 3 qF;have h4:=h 4 qF;have h5:=h 5 qF;have h6:=h 6 qF;have h7:=h 7 qF;have h8:=h 8 qF;have h9:=h 9 qF;have h10:=h 10 qF;have h11:=h 11 qF;have h12:=h 12 qF;have h13:=h 13 qF;have h14:=h 14 qF;have h15:=h 15 qF;have⟨a0,a1,a2,a3,a4,a5,a6,a7,a8,a9,a10,a11,a12,a13,a14,a15⟩:=a;have⟨b0,b1,b2,b3,b4,b5,b6,b7,b8,b9,b10,b11,b12,b13,b14,b15⟩:=b;have h0:a0=b0:=h0;have h1:a1=b1:=h1;have h2:a2=b2:=h2;have h3:a3=b3:=h3;have h4:a4=b4:=h4;have h5:a5=b5:=h5;have h6:a6=b6:=h6;have h7:a7=b7:=h7;have h8:a8=b8:=h8;have h9:a9=b9:=h9;have h10:a10=b10:=h10;have h11:a11=b11:=h11;have h12:a12=b12:=h12;have h13:a13=b13:=h13;have h14:a14=b14:=h14;have h15:a15=b15:=h15;subst h0 h1 h2 h3 h4 h5 h6 h7 h8 h9 h10 h11 h12 h13 h14 h15;rfl
theorem new_rise(b n:Int):∀ i,i<16->A16.get (Bl_ b n).rises i=⟨0,[]⟩:=λi hi=>by
 unfold Bl_ A16.get
 repeat' split
 all_goals rfl
theorem kof_fwd{s:I_}{b:Int}(h:KF s)(hb:s.bytes=max 0 b)(hr:0<=Ek_ s):Hy_ (X_ s) b=(s,0):=by
 have⟨hs,hq,hn,hw,hi⟩:=h;have h8:=hs.1.1;have hup:=upN_le s.rises 16;have e1:R_ ⟨X_ s,0⟩ 8=(s.next,⟨numB 1 s.rows.length++(s.rows.flatMap rowB++(numB 1 (upN s.rises 16)++upB s.rises 16)),0⟩):=by
   rw[ke hs hq]
   exact Hl_ hn.1 (by have :=hn.2;omega)
 have e2:R_ ⟨numB 1 s.rows.length++(s.rows.flatMap rowB++(numB 1 (upN s.rises 16)++upB s.rises 16)),0⟩ 1=((s.rows.length:Int),⟨s.rows.flatMap rowB++(numB 1 (upN s.rises 16)++upB s.rises 16),0⟩):=I7_ qD;have e3:R_ ⟨numB 1 (upN s.rises 16)++upB s.rises 16,0⟩ 1=((upN s.rises 16:Int),⟨upB s.rises 16,0⟩):=I7_ qD;unfold Hy_;rw[lt,e1,lt,lt,e2];dsimp only;have hf:=rows_fwd (X_ s) (numB 1 (upN s.rises 16)++upB s.rises 16) s.rows ((s.rows.length:Int).toNat+1) (Bl_ s.next b) qD (by show 0+s.rows.length<=8;omega) hw (show ((([]:List Go_)++s.rows).map (λr:Go_=>r.q.name)).Nodup from by simpa using hs.1.2.2);rw[hf,Gs_.eq_2];have c1:decide ((0:Int)<0)=false:=by decide
 rw[c1];simp only[BH,cond_false]
 have⟨z,hz1,hz2⟩:=ups_fwd s.rises hi 16 ((upN s.rises 16:Int).toNat+1) ⟨(Bl_ s.next b).next,(Bl_ s.next b).bytes,(Bl_ s.next b).rows++s.rows,(Bl_ s.next b).rises⟩ qD qD (λi hi2=>by
   show A16.get (Bl_ s.next b).rises i=_
   rw[if_neg qD]
   exact new_rise s.next b i hi2)
 rw[lt2,lt,e3];dsimp only;rw[hz2];have hz:z=s.rises:=a16_ext hz1;have hs2:(⟨(Bl_ s.next b).next,(Bl_ s.next b).bytes,(Bl_ s.next b).rows++s.rows,z⟩:I_)=s:=by
   rw[hz,show (Bl_ s.next b).next = s.next from rfl,show (Bl_ s.next b).bytes=max 0 b from rfl,<- hb,show (Bl_ s.next b).rows=[] from rfl]
   rfl
 dsimp only;rw[hs2];have c2:decide (Vj_ ⟨[],0⟩=0)=true:=by decide
 have c3:decide (Ek_ s<0)=false:=decide_eq_false qD;rw[c2,c3];simp
def Wf(m:Mail):Prop:=(U64 m.id/\U64 m.due/\0<=m.hops/\m.hops<=255)/\∀ p∈m.head,p.wf
theorem wf_of{m:Mail}(h:MlF m):Wf m:=⟨⟨h.1.1,h.1.2.1,h.1.2.2.1.1,h.1.2.2.1.2⟩,h.2.1⟩
theorem mlf_of{m:Mail}(h:Wf m)(e:Hs_ m=0):MlF m:=by
 have⟨k1,k2,k3,k4,k5⟩:=Mm_ e;have k6:=(Lm_ k3).1;exact⟨⟨h.1.1,h.1.2.1,⟨h.1.2.2.1,h.1.2.2.2⟩,by omega,by omega,by omega,by omega⟩,h.2,e⟩
theorem u64_0:U64 0:=by constructor<;>decide
def LG(next most:Int)(l:List Z_):Prop:=(l.length:Int)<=most/\∀ x∈l,ItF next x
def RG(next :Int)(r:Go_):Prop:=U64 r.q.most/\U64 r.q.life/\LG next r.q.most r.l.items
def KG(k:I_):Prop:=U64 k.next /\ (∀ r∈k.rows,RG k.next r)/\∀ i,i<16->RiF (A16.get k.rises i)
theorem wf_0:Wf ⟨0,[],[],[],[],0,0⟩:=⟨⟨u64_0,u64_0,by simp,by simp⟩,λ_ h=>by cases h⟩
theorem lg_gt{n m:Int}{l:List Z_}(h:LG n m l){k:Nat}(hk:k<l.length):ItF n (gt l k):=h.2 _ (I2_ hk)
theorem wf_gt{n m:Int}{l:List Z_}(h:LG n m l){k:Nat}:Wf (gt l k).Ah_:=by
 by_cases q:k<l.length;exact wf_of (lg_gt h q).1;have :gt l k=default:=by unfold gt;rw[AS,List.getElem?_eq_none qD];rfl
 rw[this];exact wf_0
theorem lg_set{n m:Int}{l:List Z_}(h:LG n m l){k:Nat}{a b:Bool}:LG n m (l.set k ⟨(gt l k).Ah_,a,b⟩):=by
 refine⟨by rw[List.length_set];exact h.1,λx hx=>?_⟩;by_cases q:k<l.length
 . rcases BO hx with e|e
   exact h.2 x e
   rw[e];exact lg_gt h q
 rw[C6 qD] at hx;exact h.2 x hx
theorem lg_rem{n m:Int}{l:Ax_}(h:LG n m l.items)(id:Int):LG n m (Be_ l id).1.items/\Wf (Be_ l id).2.1.Ah_/\(0<=Bo_ l id->(Be_ l id).1.items.length+1=l.items.length):=by
 have hb:-1<=Bo_ l id/\Bo_ l id<l.items.length:=Nl_ _ _;unfold Be_ lt;let Q:Ax_×Z_×Int->Prop:=λr=>LG n m r.1.items/\Wf r.2.1.Ah_/\(0<=Bo_ l id->r.1.items.length+1=l.items.length);refine bt (P:=Q) (λe=>⟨h,wf_0,λq=>?_⟩) λe=>?_;simp only[decide_eq_true_eq] at e;omega;simp only[decide_eq_false_iff_not] at e;have hl:([l.items.take (Bo_ l id).toNat,l.items.drop (Bo_ l id+1).toNat].flatten).length+1=l.items.length:=by
   simp only[AP,AU,AJ,A1,B5,AM]
   omega
 exact⟨⟨by have :=h.1;show ((([l.items.take (Bo_ l id).toNat,l.items.drop (Bo_ l id+1).toNat].flatten).length:Nat):Int)<=m;omega,λx hx=>h.2 x (mem_td hx)⟩,wf_gt h,λ_=>hl⟩
theorem wf_told{n m:Int}{l:Ax_}(h:LG n m l.items){k:Int}:Wf (Ep_ l k).1:=by
 unfold Ep_ lt;let Q:Mail×Bool->Prop:=λr=>Wf r.1;exact bt (P:=Q) (λ_=>wf_0) λ_=>wf_gt h
theorem lg_lend{n m:Int}{l:Ax_}(h:LG n m l.items):LG n m (E8_ l).1.items:=by
 unfold E8_ lt;let Q:Ax_×Z_×Bool->Prop:=λr=>LG n m r.1.items;exact bt (P:=Q) (λ_=>h) λ_=>lg_set h
theorem lg_back{n m:Int}{l:Ax_}(h:LG n m l.items){id:Int}:LG n m (F3_ l id).1.items:=by
 unfold F3_ lt;let Q:Ax_×Int->Prop:=λr=>LG n m r.1.items;exact bt (P:=Q) (λ_=>h) λ_=>bt (P:=Q) (λ_=>h) λ_=>lg_set (lg_set h)
theorem lg_wake0{n m:Int}:∀ (t:List Z_) (k:Nat) (x:Ax_),LG n m x.items->LG n m (Dg_ t k x).items
 |[],_,_,h=>h
 |y::t,k,x,h=>by
   unfold Dg_
   let Q:Ax_->Prop:=λr=>LG n m r.items
   exact bt (P:=Q) (λ_=>lg_wake0 t _ _ (lg_set (lg_set h))) λ_=>lg_wake0 t _ _ h
theorem first_of{l:Ax_}(h:(C6_ l).2=true):0<=Bo_ l (C6_ l).1.id:=by
 unfold C6_ lt Ep_ lt at h ⊢;have hb:-1<=C2_ l/\C2_ l<l.items.length:=Nl_ _ _
 cases e:decide (C2_ l<0) with
 |true=>rw[e] at h;cases h
 |false=>
   rw[decide_eq_false_iff_not] at e
   simp only[cond_false]
   by_cases q:0<=Bo_ l (K_ (gt l.items (C2_ l).toNat).Ah_).id
   . exact q
   . have h0:Bo_ l (K_ (gt l.items (C2_ l).toNat).Ah_).id<0:=by omega
     have h1:=S5_ (p:=λz_4:Z_=>(Qz_ z_4 (K_ (gt l.items (C2_ l).toNat).Ah_).id)) (l:=l.items) h0
     have h2:=List.find?_eq_none.1 h1 _ (I2_ (xs:=l.items) (k:=(C2_ l).toNat) qD)
     exact (h2 (by simp[Qz_,K_])).elim
theorem lg_add{n m:Int}{l:Ax_}{x:Mail}(h:LG n m l.items)(hl:(l.items.length:Int)<m)(hx:ItF n ⟨x,false,false⟩):LG n m (C9_ l x).1.items:=by
 unfold C9_ F7_ lt;let Q:Ax_×Int->Prop:=λr=>LG n m r.1.items;refine bt (P:=Q) (λ_=>h) λ_=>⟨?_,λy hy=>?_⟩;show ((([l.items,[Ck_ ⟨x,false,false⟩]].flatten).length:Nat):Int)<=m;simp only[AP,AU,AJ,A1,A3,A6];omega
 . rcases P7_ hy with q|q
   exact h.2 y q
   rw[q];exact hx
theorem Zt_{k:I_}(h:KG k){i:Nat}(hi:i<k.rows.length):RG k.next (gt k.rows i):=h.2.1 _ (I2_ hi)
theorem W3_{k:I_}(h:KG k){i:Int}(hi:0<=i/\i<k.rows.length){l:Ax_}(hl:LG k.next (gt k.rows i.toNat).q.most l.items):KG (Ak_ k i l):=by
 refine⟨h.1,λr hr=>?_,h.2.2⟩
 rcases BO hr with e|e
 exact h.2.1 r e;rw[e];have :=Zt_ h (i:=i.toNat) qD;exact⟨this.1,this.2.1,hl⟩
theorem itf_up{n:Int}{x:Z_}(hu:U64 n)(hn:n≠0)(h:ItF n x):ItF (IntKind.wrap .u64 (n+1)) x:=by
 refine⟨h.1,?_⟩;have h2:x.Ah_.id<n:=by rcases h.2 with q|q;exact (hn q).elim;exact q
 have h4:=hu.2;by_cases q:n+1<=18446744073709551615;right;rw[Bp_ (by have :=hu.1;omega) (h1:=q)];omega;exact xF
theorem mailC_id(m:Mail)(a:Int):Hs_ ⟨a,m.Bm_,m.key,m.head,m.body,m.due,m.hops⟩=Hs_ m:=rfl
theorem kg_next{k:I_}(hn:k.next ≠ 0)(h:KG k)(hu:IntKind.wrap .u64 (k.next + 1)=IntKind.wrap .u64 (k.next + 1)):KG ⟨IntKind.wrap .u64 (k.next + 1),k.bytes,k.rows,k.rises⟩:=by
 refine⟨G9_ _,λr hr=>?_,h.2.2⟩;have⟨h1,h2,h3,h4⟩:=h.2.1 r hr;exact⟨h1,h2,h3,λx hx=>itf_up h.1 hn (h4 x hx)⟩
theorem kg_put{k:I_}(h:KG k)(hn:k.next ≠ 0){i:Int}(hi:0<=i/\i<k.rows.length){l:Ax_}(hl:LG (IntKind.wrap .u64 (k.next + 1)) (gt k.rows i.toNat).q.most l.items):KG ⟨IntKind.wrap .u64 (k.next + 1),(Ak_ k i l).bytes,(Ak_ k i l).rows,(Ak_ k i l).rises⟩:=
 W3_ (k:=⟨IntKind.wrap .u64 (k.next + 1),k.bytes,k.rows,k.rises⟩) (kg_next hn h Z) hi hl
theorem kg_wake0:∀ (t:List Go_) (k:Nat) (x:I_),(∀ (j:Nat) (r:Go_),t[j]? = some r->k+j<x.rows.length/\(gt x.rows (k+j)).q=r.q/\LG x.next r.q.most r.l.items)->KG x->KG (Cv_ t k x)
 |[],_,_,_,h=>h
 |y::t,k,x,ht,h=>by
   have⟨h1,h2,h3⟩:=ht 0 y Z
   have hk:(((k:Nat):Int)).toNat=k:=by omega
   have hw:KG (Ak_ x (k:Int) (Fs_ y.l)):=W3_ h ⟨by omega,by omega⟩ (by rw[hk,show gt x.rows k=gt x.rows (k+0) from rfl,h2];exact lg_wake0 _ _ _ h3)
   refine kg_wake0 t (k+1) _ (λj r hr=>?_) hw
   have⟨g1,g2,g3⟩:=ht (j+1) r hr
   have hlen:(Ak_ x (k:Int) (Fs_ y.l)).rows.length=x.rows.length:=S9_ _ _ _
   refine⟨by rw[hlen];omega,?_,g3⟩
   rw[<- g2]
   show (gt (x.rows.set (((k:Nat):Int)).toNat ⟨(gt x.rows (((k:Nat):Int)).toNat).q,Fs_ y.l⟩) (k+1+j)).q=_
   rw[hk]
   have e:k+1+j=k+(j+1):=by omega
   rw[e]
   unfold gt
   rw[AS,FB qD,<- AS]
theorem next_up{n:Int}(hu:U64 n):IntKind.wrap .u64 (n+1)=0\/n<IntKind.wrap .u64 (n+1):=by
 have h4:=hu.2;by_cases q:n+1<=18446744073709551615;right;rw[Bp_ (by have :=hu.1;omega) (h1:=q)];omega;exact xF
theorem due_r{d t l:Int}(h:U64 d):U64 (K4_ d t l):=by
 unfold K4_;have hw:=G9_ (t+l);refine bt (P:=U64) (λ_=>h) λ_=>bt (P:=U64) (λ_=>hw) λ_=>?_;have⟨h1,h2⟩:=h;constructor<;>omega
theorem kg_late0(t:Int):∀ (l:List Go_) (n:Int),(∀ r∈l,RG n r)->Wf (Cd_ t l).2.1
 |[],_,_=>wf_0
 |y::l,n,h=>by
   unfold Cd_ lt
   let Q:Bs×Mail×Bool->Prop:=λr=>Wf r.2.1
   refine bt (P:=Q) (λ_=>?_) λ_=>kg_late0 t l n λr hr=>h r (by simp[hr])
   unfold Gy_ lt
   exact wf_told (h y qI).2.2
theorem cloG:Clw U64 Wf KG NtF where
 kp:=λ{k n m} hk hm h=>by
   have ha:=at_b k n
   unfold B4_ lt
   let Q:I_×Int×Mail×Int->Prop:=λr=>KG r.1/\Wf r.2.2.1
   refine bt (P:=Q) (λ_=>⟨h,wf_0⟩) λe1=>bt (P:=Q) (λ_=>⟨h,wf_0⟩) λe2=>bt (P:=Q) (λ_=>⟨h,wf_0⟩) λe3=>?_
   simp only[decide_eq_false_iff_not,AN,decide_eq_true_eq] at e1 e2 e3
   have hi:0<=O_ k n/\O_ k n<k.rows.length:=by omega
   have⟨r1,r2,r3⟩:=Zt_ h (i:=(O_ k n).toNat) qD
   have hln:LnOk (gt k.rows (O_ k n).toNat).l:=hk.1.2.1 _ (I2_ qD)
   have h64:=hln.1
   have hw:A0 .u64 (Fe_ (gt k.rows (O_ k n).toNat).l)=((gt k.rows (O_ k n).toNat).l.items.length:Int):=Bp_ (show (0:Int)<=((gt k.rows (O_ k n).toNat).l.items.length:Int) by omega) (h1:=show ((gt k.rows (O_ k n).toNat).l.items.length:Int)<=_ by omega)
   obtain⟨row,hrow⟩:∃ row,gt k.rows (O_ k n).toNat=row:=⟨_,rfl⟩
   rw[hrow] at r1 r2 r3 hln h64 hw ⊢
   rw[hw]
   refine lp2E (P:=Q) (λq=>LG k.next row.q.most q.1.items/\(q.1.items.length:Int)<row.q.most/\Wf q.2) ?_ λx x1 hx=>?_
   . refine bt (P:=LoP _ _) (λc=>bt (P:=LoP _ _) (λ_=>⟨h,wf_0⟩) λc2=>?_) λc=>⟨r3,?_,wf_0⟩
     . simp only[AN] at c2
       have hrm:=lg_rem r3 (C6_ row.l).1.id
       have h3:=hrm.2.2 (first_of c2)
       refine⟨hrm.1,?_,?_⟩
       . have :=r3.1
         show ((Be_ row.l (C6_ row.l).1.id).1.items.length:Int)<row.q.most
         omega
       . show Wf (C6_ row.l).1
         unfold C6_ lt
         exact wf_told r3
     . simp only[decide_eq_false_iff_not] at c
       show (row.l.items.length:Int)<row.q.most
       omega
   . refine bt (P:=Q) (λ_=>⟨h,wf_0⟩) λ_=>bt (P:=Q) (λ_=>⟨h,wf_0⟩) λ_=>⟨?_,hx.2.2⟩
     have hm1:MlF ⟨k.next,m.Bm_,m.key,m.head,m.body,m.due,m.hops⟩:=mlf_of ⟨⟨h.1,hm.1.2.1,hm.1.2.2.1,hm.1.2.2.2⟩,hm.2⟩ (by rw[mailC_id];exact e2)
     refine kg_put h e3 hi ?_
     rw[hrow]
     exact lg_add ⟨hx.1.1,λy hy=>itf_up h.1 e3 (hx.1.2 y hy)⟩ hx.2.1 ⟨hm1,next_up h.1⟩
 kl:=λ{k n} h=>by
   have ha:=at_b k n
   unfold Dj_ lt
   let Q:I_×Z_×Bool->Prop:=λr=>KG r.1
   refine bt (P:=Q) (λ_=>h) λe=>?_
   simp only[decide_eq_false_iff_not] at e
   exact W3_ h qD (lg_lend (Zt_ h qD).2.2)
 kr:=λ{k n i} h=>by
   have ha:=at_b k n
   unfold Ba_ lt
   let Q:I_×Z_×Int->Prop:=λr=>KG r.1/\Wf r.2.1.Ah_
   refine bt (P:=Q) (λ_=>⟨h,wf_0⟩) λe=>?_
   simp only[decide_eq_false_iff_not] at e
   have hr:=lg_rem (Zt_ h (i:=(O_ k n).toNat) qD).2.2 i
   exact⟨W3_ h qD hr.1,hr.2.1⟩
 kb:=λ{k n i} h=>by
   have ha:=at_b k n
   unfold Dx_ lt
   let Q:I_×Int->Prop:=λr=>KG r.1
   refine bt (P:=Q) (λ_=>h) λe=>?_
   simp only[decide_eq_false_iff_not] at e
   exact W3_ h qD (lg_back (Zt_ h qD).2.2)
 ks:=λ{k p m} hm h=>by
   unfold Cp_ lt
   let Q:I_×Int->Prop:=λr=>KG r.1
   refine bt (P:=Q) (λ_=>h) λe=>bt (P:=Q) (λ_=>h) λ_=>bt (P:=Q) (λ_=>h) λ_=>⟨h.1,h.2.1,λi hi=>?_⟩
   simp only[AO,decide_eq_false_iff_not] at e
   show RiF (A16.get (A16.set k.rises (Da_ (A16.get k.rises p.toNat) m).1 p.toNat) i)
   rw[A16.get_set _ _ _ _ qD hi]
   split
   . exact rput_f (mlf_of hm) (h.2.2 _ qD)
   . exact h.2.2 i hi
 kw:=λ{k} _ h=>kg_wake0 _ _ _ (λj r hr=>by
   have hl:=(List.getElem?_eq_some_iff.1 hr).1
   have hg:gt k.rows j=r:=by unfold gt;rw[AS,hr];rfl
   rw[BD]
   refine⟨hl,by rw[hg],?_⟩
   have :=Zt_ h hl
   rw[hg] at this
   exact this.2.2) h
 kt:=λ{k t} h=>kg_late0 t _ _ h.2.1
 na:=λht hk h=>nadd_f ht hk h
 wd:=λh=>⟨⟨u64_0,due_r h.1.2.1,h.1.2.2⟩,h.2⟩
 wr:=λh=>⟨⟨u64_0,h.1.2⟩,h.2⟩
 wb:=λ{m s} h=>⟨⟨h.1.1,u64_0,wr_u8 _⟩,h.2⟩
 wp:=λ{m} h=>⟨⟨h.1.1,h.1.2.1,wr_u8 _⟩,h.2⟩
theorem doG{s:D_}{d:G_}(ht:U64 d.tick)(hc:0<=d.code/\d.code<=255)(h:StOk s)(h0:0<=d.Ah_.hops)(hm:Wf d.Ah_)(hqm:U64 d.queue.most)(hql:U64 d.queue.life)(hs:KG s.x.E_)(hn:NtF s.x.notes):KG (H_ s d).1.x.E_/\NtF (H_ s d).1.x.notes:=by
 rcases do_w cloG ht hc h h0 hm (⟨rfl,rfl,rfl,hs,hn,rfl,λ_=>id⟩:Kw U64 KG NtF s s) with e|(e|e)|e|e
 rw[e];exact⟨hs,hn⟩;exact⟨e.k,e.n⟩;exact⟨e.k,e.n⟩
 . have⟨b,k,e2,e3,_⟩:=V7_ s d
   rw[e,e2]
   refine⟨?_,hn⟩
   show KG k
   rcases e3 with rfl|rfl
   . unfold Bb_ lt
     let R:I_×Int->Prop:=λr=>KG r.1
     refine bt (P:=R) (λ_=>hs) λ_=>bt (P:=R) (λ_=>hs) λ_=>bt (P:=R) (λ_=>hs) λ_=>bt (P:=R) (λ_=>hs) λ_=>⟨hs.1,λr hr=>?_,hs.2.2⟩
     rcases P7_ hr with q|q
     exact hs.2.1 r q
     rw[q];exact⟨hqm,hql,hqm.1,λ_ h=>by cases h⟩
   unfold Bz_ lt
   let R:I_×Int->Prop:=λr=>KG r.1
   exact bt (P:=R) (λ_=>hs) λ_=>⟨hs.1,λr hr=>hs.2.1 r (mem_td hr),hs.2.2⟩
 have⟨b,e2,_⟩:=shops_x s d;rw[e,e2];exact⟨hs,hn⟩
theorem newG{p:F_}{k:Int}(hb:U64 (At_ p k).x.E_.next):KG (At_ p k).x.E_/\NtF (At_ p k).x.notes:=by
 refine⟨⟨hb,(λ_ h=>by cases h),λi hi=>?_⟩,ntf_nil⟩
 have :∀ i,i<16->A16.get (At_ p k).x.E_.rises i=⟨0,[]⟩:=bw16 Z Z Z Z Z Z Z Z Z Z Z Z Z Z Z Z;rw[this i hi];exact rif_nil
theorem kf_of{k:I_}(h:StkOk k)(hq:RoB k)(hg:KG k):KF k:=
 ⟨h,hq,hg.1,λr hr=>⟨h.1.2.1 r hr,hq r hr,(hg.2.1 r hr).1,(hg.2.1 r hr).2.1,(hg.2.1 r hr).2.2.1,(hg.2.1 r hr).2.2.2⟩,hg.2.2⟩
def Ra_(s:W_):G_:=(⟨0,0,s,aM,aP,[],0,0,0,0,0,aJ,[]⟩:G_)
def N8_(b:Q_):G_:=(⟨4,0,aO,aM,b,[],0,0,0,0,0,aJ,[]⟩:G_)
theorem irs_fwd(text:Bs)(p:F_)(k:Int){rest:Bs}(t:List W_):∀ (f:Nat) (ds:List G_),t.length<f->t.length<=255->(∀ s∈t,L2_ s=0/\0<=s.sort)->Ec_ text p k f (t.length:Int) ⟨t.flatMap Rh_++rest,0⟩ ds=Ec_ text p k 1 0 ⟨rest,0⟩ (ds++t.map Ra_):=by
 induction t with
 |nil=>
   intro f ds hf _ _
   obtain⟨g,rfl⟩:∃ g,f=g+1:=⟨f-1,by omega⟩
   rw[Ec_.eq_2,Ec_.eq_2]
   have c:decide ((0:Int)<0)=false:=by decide
   have c0:(([]:List W_).length:Int)=0:=rfl
   rw[c0,c]
   simp
 |cons s t ih=>
   intro f ds hf hl h
   obtain⟨g,rfl⟩:∃ g,f=g+1:=⟨f-1,by omega⟩
   simp only[A3] at hf hl
   have⟨h1,h2⟩:=h s qI
   have h3:=U0_ h1
   have e1:V_ ⟨(s::t).flatMap Rh_++rest,0⟩ 16=(s.name,⟨numB 1 s.sort.toNat++(txtB s.to'++(t.flatMap Rh_++rest)),0⟩):=by
     rw[B9,Rh_]
     exact sD
   have e2:R_ ⟨numB 1 s.sort.toNat++(txtB s.to'++(t.flatMap Rh_++rest)),0⟩ 1=(s.sort,⟨txtB s.to'++(t.flatMap Rh_++rest),0⟩):=Jj_ h2 qD
   have e3:V_ ⟨txtB s.to'++(t.flatMap Rh_++rest),0⟩ 16=(s.to',⟨t.flatMap Rh_++rest,0⟩):=Kg_
   rw[Ec_.eq_2]
   have e:decide (0<(((s::t).length:Nat):Int))=true:=decide_eq_true oT
   rw[e]
   simp only[decide_true,BU,cond_true]
   rw[lt,e1,lt,e2,lt,e3]
   have hw:A0 .u64 ((((s::t).length:Nat):Int)-1)=(t.length:Int):=by
     exact uZ
   rw[hw]
   refine (ih g (ds++[Ra_ s]) qD qD (λy hy=>h y pA)).trans ?_
   rw[BC,A7,F5]
theorem irb_step{text:Bs}{p:F_}{k n:Int}{f:Nat}{i:In}{ds:List G_}{r5 r6 r7 r8 r9 r10:_}(hn:0<n)(hi:i.err=0)(e5:V_ i 16=r5)(e6:V_ r5.2 16=r6)(e7:R_ r6.2 1=r7)(e8:V_ r7.2 64=r8)(e9:Br_ r8.2=r9)(e10:R_ r9.2 1=r10):Cn_ text p k (f+1) n i ds=Cn_ text p k f (IntKind.wrap .u64 (n-1)) r10.2 (ds++[N8_ ⟨r5.1,r6.1,decide (r7.1=1),r8.1,r9.1,decide (r10.1=1)⟩]):=by
 rw[Cn_.eq_2,decide_eq_true hn,decide_eq_true hi];simp only[BU,cond_true];rw[lt,e5];rw[lt,e6];rw[lt,e7];rw[lt,e8];rw[lt,e9];rw[lt,e10];rfl
theorem bit_one(b:Bool):decide (((bitM b:Nat):Int)=1)=b:=by cases b<;>rfl
theorem irb_nil(text:Bs)(p:F_)(k:Int)(f g:Nat){i:In}(ds:List G_):Cn_ text p k (f+1) 0 i ds=Cn_ text p k (g+1) 0 i ds:=by
 rw[Cn_.eq_2,Cn_.eq_2];have c:decide ((0:Int)<0)=false:=by decide
 rw[c,BH,cond_false,cond_false]
theorem irb_fwd(text:Bs)(p:F_)(k:Int){rest:Bs}(t:List Q_):∀ (f:Nat) (ds:List G_),t.length<f->t.length<=255->(∀ y∈t,BiB y)->Cn_ text p k f (t.length:Int) ⟨t.flatMap Mi_++rest,0⟩ ds=Cn_ text p k 1 0 ⟨rest,0⟩ (ds++t.map N8_):=by
 induction t with
 |nil=>
   intro f ds hf _ _
   obtain⟨g,rfl⟩:∃ g,f=g+1:=⟨f-1,by omega⟩
   rw[DC,AJ]
   exact irb_nil text p k g 0 ds
 |cons y t ih=>
   intro f ds hf hl h
   obtain⟨g,rfl⟩:∃ g,f=g+1:=⟨f-1,by omega⟩
   simp only[A3] at hf hl
   have hy:=h y qI
   have h3:=bib_f hy
   have hb:∀ b:Bool,bitM b<=255:=λb=>by cases b<;>decide
   have e1:V_ ⟨(y::t).flatMap Mi_++rest,0⟩ 16=(y.Bm_,⟨txtB y.to'++(numB 1 (bitM y.up)++(txtB y.key++(Bt_ y.want++(numB 1 (bitM y.all)++(t.flatMap Mi_++rest))))),0⟩):=by
     rw[B9,Mi_]
     exact sD
   have e2:V_ ⟨txtB y.to'++(numB 1 (bitM y.up)++(txtB y.key++(Bt_ y.want++(numB 1 (bitM y.all)++(t.flatMap Mi_++rest))))),0⟩ 16=(y.to',⟨numB 1 (bitM y.up)++(txtB y.key++(Bt_ y.want++(numB 1 (bitM y.all)++(t.flatMap Mi_++rest)))),0⟩):=Kg_
   have e3:R_ ⟨numB 1 (bitM y.up)++(txtB y.key++(Bt_ y.want++(numB 1 (bitM y.all)++(t.flatMap Mi_++rest)))),0⟩ 1=(((bitM y.up:Nat):Int),⟨txtB y.key++(Bt_ y.want++(numB 1 (bitM y.all)++(t.flatMap Mi_++rest))),0⟩):=I7_ (hb _)
   have e4:V_ ⟨txtB y.key++(Bt_ y.want++(numB 1 (bitM y.all)++(t.flatMap Mi_++rest))),0⟩ 64=(y.key,⟨Bt_ y.want++(numB 1 (bitM y.all)++(t.flatMap Mi_++rest)),0⟩):=Kg_
   have e5:Br_ ⟨Bt_ y.want++(numB 1 (bitM y.all)++(t.flatMap Mi_++rest)),0⟩=(y.want,⟨numB 1 (bitM y.all)++(t.flatMap Mi_++rest),0⟩):=U8_ hy.2.2.2.1 hy.2.2.2.2
   have e6:R_ ⟨numB 1 (bitM y.all)++(t.flatMap Mi_++rest),0⟩ 1=(((bitM y.all:Nat):Int),⟨t.flatMap Mi_++rest,0⟩):=I7_ (hb _)
   have hw:A0 .u64 ((((y::t).length:Nat):Int)-1)=(t.length:Int):=by
     exact uZ
   rw[irb_step (show (0:Int)<(((y::t).length:Nat):Int) by simp only[A3];omega) Z e1 e2 e3 e4 e5 e6,hw]
   simp only[bit_one]
   refine (ih g (ds++[N8_ y]) qD qD (λz hz=>h z qX)).trans ?_
   rw[BC,A7,F5]
def sB(a:A16_u64):Nat->Bs
 |0=>[]
 |n+1=>numB 8 (A16.get a (15-n)).toNat++sB a n
theorem is_eq(x:Ab_)(n:Nat):∀ (f:Nat) (o:Out),n<=16->n<f->∃ e,Gx_ x f (16-n) o=F2_ x (8-0+1) 0 ⟨o.s++sB x.seen n,e⟩:=by
 induction n with
 |zero=>
   intro f o _ hf
   obtain⟨g,rfl⟩:∃ g,f=g+1:=⟨f-1,by omega⟩
   refine⟨o.err,?_⟩
   rw[Gx_]
   have e:decide (((16-0:Nat):Int)<16)=false:=by decide
   rw[e,cond_false]
   simp[sB]
 |succ n ih=>
   intro f o h hf
   obtain⟨g,rfl⟩:∃ g,f=g+1:=⟨f-1,by omega⟩
   have e:decide (((16-(n+1):Nat):Int)<16)=true:=decide_eq_true qD
   have hv:16-(n+1)=15-n:=by omega
   have hv2:16-(n+1)+1=16-n:=by omega
   have⟨w,hw⟩:=ih g (C_ o (A16.get x.seen (15-n)) 8) qD qD
   refine⟨w,?_⟩
   rw[Gx_,e,cond_true,hv2,hv,hw,Jp_,sB]
   simp
theorem ird2_step{text:Bs}{p:F_}{k:Int}{ds:List G_}{q:I_×Int}{f v:Nat}{i:In}{x:Ab_}{r:Int×In}(hv:(v:Int)<16)(e:R_ i 8=r):Dv_ text p k ds q (f+1) v i x=Dv_ text p k ds q f (v+1) r.2 ⟨x.book,x.E_,x.notes,A16.set x.seen r.1 v,x.spent⟩:=by
 rw[Dv_,decide_eq_true hv,cond_true,lt,e]
theorem ird2_end{text:Bs}{p:F_}{k:Int}{ds:List G_}{q:I_×Int}{f v:Nat}{i:In}{x:Ab_}(hv:¬(v:Int)<16):Dv_ text p k ds q (f+1) v i x=C8_ text p k ds q (8-0+1) q.2 0 i x:=by
 rw[Dv_,decide_eq_false hv,cond_false]
theorem is_fwd(text:Bs)(p:F_)(k:Int){ds:List G_}{q:I_×Int}(rest:Bs)(a:A16_u64)(ha:∀ i,i<16->U64 (A16.get a i))(n:Nat):∀ (f:Nat) (x:Ab_),n<=16->n<f->(∀ i,i<16-n->A16.get x.seen i=A16.get a i)->Dv_ text p k ds q f (16-n) ⟨sB a n++rest,0⟩ x=C8_ text p k ds q (8-0+1) q.2 0 ⟨rest,0⟩ ⟨x.book,x.E_,x.notes,a,x.spent⟩:=by
 induction n with
 |zero=>
   intro f x _ hf h
   obtain⟨g,rfl⟩:∃ g,f=g+1:=⟨f-1,by omega⟩
   rw[ird2_end qD]
   have hs:x.seen=a:=a16_ext λi hi=>h i qD
   have⟨x1,x2,x3,x4,x5⟩:=x
   have hs:x4=a:=hs
   subst hs
   rfl
 |succ n ih=>
   intro f x hn hf h
   obtain⟨g,rfl⟩:∃ g,f=g+1:=⟨f-1,by omega⟩
   have hu:=ha (15-n) qD
   have e1:R_ ⟨sB a (n+1)++rest,0⟩ 8=(A16.get a (15-n),⟨sB a n++rest,0⟩):=by
     rw[sB,A7]
     exact Hl_ hu.1 (by have :=hu.2;omega)
   have hv:16-(n+1)=15-n:=by omega
   have hv2:15-n+1=16-n:=by omega
   rw[hv,ird2_step qD e1,hv2,ih g _ qD qD]
   intro i hi
   show A16.get (A16.set x.seen (A16.get a (15-n)) (15-n)) i=_
   rw[A16.get_set _ _ _ _ qD qD]
   by_cases q2:i=15-n
   . subst q2;rw[if_pos rfl]
   . rw[if_neg qD]
     exact h i qD
def pB(a:A8_SpentR):Nat->Bs
 |0=>[]
 |n+1=>numB 8 (A8.get a (7-n)).round.toNat++(numB 1 (A0 .u64 (A8.get a (7-n)).count).toNat++pB a n)
theorem ip_eq(x:Ab_)(n:Nat):∀ (f:Nat) (o:Out),n<=8->n<f->F2_ x f (8-n) o=o.s++pB x.spent n:=by
 induction n with
 |zero=>
   intro f o _ hf
   obtain⟨g,rfl⟩:∃ g,f=g+1:=⟨f-1,by omega⟩
   rw[F2_]
   have e:decide (((8-0:Nat):Int)<8)=false:=by decide
   rw[e,cond_false]
   simp[pB]
 |succ n ih=>
   intro f o h hf
   obtain⟨g,rfl⟩:∃ g,f=g+1:=⟨f-1,by omega⟩
   have e:decide (((8-(n+1):Nat):Int)<8)=true:=decide_eq_true qD
   have hv:8-(n+1)=7-n:=by omega
   have hv2:8-(n+1)+1=8-n:=by omega
   rw[F2_,e,cond_true,hv2,hv,ih g _ qD qD,Gh_,Jp_,pB]
   simp
theorem ird3_step{text:Bs}{p:F_}{k:Int}{ds:List G_}{q:I_×Int}{f v:Nat}{c:Int}{i:In}{x:Ab_}{r r2:Int×In}(hv:(v:Int)<8)(e:R_ i 8=r)(e2:R_ r.2 1=r2)(hc:r2.1<=16):C8_ text p k ds q (f+1) c v i x=C8_ text p k ds q f c (v+1) r2.2 ⟨x.book,x.E_,x.notes,x.seen,A8.set x.spent ⟨r.1,r2.1⟩ v⟩:=by
 rw[C8_,decide_eq_true hv,cond_true,lt,e,lt,e2];have hg:A8.get (A8.set x.spent (⟨r.1,r2.1⟩:Ai_) v) v=⟨r.1,r2.1⟩:=by rw[A8.get_set _ _ _ _ qD qD,if_pos rfl]
 rw[hg];have hd:decide (16<(⟨r.1,r2.1⟩:Ai_).count)=false:=decide_eq_false (by show ¬16<r2.1;omega);rw[hd,cond_false]
theorem a8_ext{α:Type}{a b:A8 α}(h:∀ i,i<8->A8.get a i=A8.get b i):a=b:=by
 have h0:=h 0 qF;have h1:=h 1 qF;have h2:=h 2 qF;have h3:=h 3 qF;have h4:=h 4 qF;have h5:=h 5 qF;have h6:=h 6 qF;have h7:=h 7 qF;have⟨a0,a1,a2,a3,a4,a5,a6,a7⟩:=a;have⟨b0,b1,b2,b3,b4,b5,b6,b7⟩:=b;have h0:a0=b0:=h0;have h1:a1=b1:=h1;have h2:a2=b2:=h2;have h3:a3=b3:=h3;have h4:a4=b4:=h4;have h5:a5=b5:=h5;have h6:a6=b6:=h6;have h7:a7=b7:=h7;subst h0 h1 h2 h3 h4 h5 h6 h7;rfl
theorem ip_fwd(text:Bs)(p:F_)(k:Int)(ds:List G_)(q:I_×Int)(c:Int)(rest:Bs)(a:A8_SpentR)(ha:∀ i,i<8->U64 (A8.get a i).round/\0<=(A8.get a i).count/\(A8.get a i).count<=16)(n:Nat):∀ (f:Nat) (x:Ab_),n<=8->(∀ i,i<8-n->A8.get x.spent i=A8.get a i)->C8_ text p k ds q (n+f) c (8-n) ⟨pB a n++rest,0⟩ x=C8_ text p k ds q f c 8 ⟨rest,0⟩ ⟨x.book,x.E_,x.notes,x.seen,a⟩:=by
 induction n with
 |zero=>
   intro f x _ h
   have hs:x.spent=a:=a8_ext λi hi=>h i qD
   have⟨x1,x2,x3,x4,x5⟩:=x
   have hs:x5=a:=hs
   subst hs
   rw[BD]
   rfl
 |succ n ih=>
   intro f x hn h
   have⟨hu,h0,h16⟩:=ha (7-n) qD
   have e1:R_ ⟨pB a (n+1)++rest,0⟩ 8=((A8.get a (7-n)).round,⟨numB 1 (A8.get a (7-n)).count.toNat++(pB a n++rest),0⟩):=by
     rw[pB,Bp_ h0]
     simp only[A7]
     exact Hl_ hu.1 (by have :=hu.2;omega)
   have e2:R_ ⟨numB 1 (A8.get a (7-n)).count.toNat++(pB a n++rest),0⟩ 1=((A8.get a (7-n)).count,⟨pB a n++rest,0⟩):=Jj_ h0 qD
   have hv:8-(n+1)=7-n:=by omega
   have hv2:7-n+1=8-n:=by omega
   have hf:n+1+f=(n+f)+1:=by omega
   rw[hv,hf,ird3_step qD e1 e2 h16,hv2,ih f _ qD]
   intro i hi
   show A8.get (A8.set x.spent (⟨(A8.get a (7-n)).round,(A8.get a (7-n)).count⟩:Ai_) (7-n)) i=_
   rw[A8.get_set _ _ _ _ qD qD]
   by_cases q2:i=7-n
   . subst q2;rw[if_pos rfl]
   . rw[if_neg qD]
     exact h i qD
theorem ib_full{x:Ab_}(h:ImOk x):Az_ x=bookB x.book++(numB 4 (X_ x.E_).length++(X_ x.E_++(K8_ x.notes++(sB x.seen 16++pB x.spent 8)))):=by
 have⟨h1,h2,h3,h4,h5,h6⟩:=h;unfold Az_ lt;rw[binds_id,shops_eq];dsimp only;rw[ib0 _ _ _ _ (λs hs=>(h2.1 s hs).1),Gh_,Gh_,ib1 _ _ _ h2.2,Fq_];unfold lt;dsimp only;have⟨w,e1⟩:=is_eq x 16 (16-0+1) (Af_ (Af_ (C_ ⟨([]++numB 1 (x.book.Bs_.length:Int).toNat++x.book.Bs_.flatMap Rh_++numB 1 (x.book.binds.length:Int).toNat)++x.book.binds.flatMap Mi_,0⟩ ((X_ x.E_).length:Int) 4) (X_ x.E_)) (Dh_ x.notes)) qD qD;refine e1.trans ?_;refine (ip_eq x 8 (8-0+1) _ qD qD).trans ?_;rw[Ya_,nb_eq h6];simp[Af_,bookB,A7]
theorem raw_fwd{s r:Bs}:Fk_ ⟨s++r,0⟩ (s.length:Int)=(s,⟨r,0⟩):=by
 unfold Fk_;simp;by_cases q:s=[];rw[if_pos q,q];rfl;rw[if_neg q,if_neg qD]
theorem ird0_end{text:Bs}{p:F_}{k:Int}{f:Nat}{i:In}{ds:List G_}{r:Int×In}(e:R_ i 1=r):Ec_ text p k (f+1) 0 i ds=Cn_ text p k (r.1.toNat+1) r.1 r.2 ds:=by
 rw[Ec_.eq_2];have c:decide ((0:Int)<0)=false:=by decide
 rw[c,BH,cond_false,lt,e]
theorem ird1_end{text:Bs}{p:F_}{k:Int}{f:Nat}{i:In}{ds:List G_}{r11 r12 r14:_}{r13:I_×Int}(e1:R_ i 4=r11)(e2:Fk_ r11.2 (IntKind.wrap .i64 r11.1)=r12)(e3:Hy_ r12.1 ((gt p.places k.toNat).bytes)=r13)(e4:Ds_ r12.2=r14):∃ x:Ab_,x.E_=r13.1/\x.notes=r14.1/\Cn_ text p k (f+1) 0 i ds=Dv_ text p k ds r13 (16-0+1) 0 r14.2 x:=by
 rw[Cn_.eq_2];have c:decide ((0:Int)<0)=false:=by decide
 rw[c,BH,cond_false];rw[lt,e1];rw[lt,e2];rw[lt,e3];rw[lt,e4];exact⟨_,rfl,rfl,rfl⟩
def bkRd(x:Ab_):RdR:=⟨(),x.book.Bs_.map Ra_++x.book.binds.map N8_⟩
def PtF(p:F_)(k:Int)(x:Ab_):Prop:=ImOk x/\KF x.E_/\NtF x.notes/\x.E_.bytes=max 0 (gt p.places k.toNat).bytes/\0<=Ek_ x.E_/\(∀ i,i<16->U64 (A16.get x.seen i))/\∀ i,i<8->U64 (A8.get x.spent i).round/\0<=(A8.get x.spent i).count/\(A8.get x.spent i).count<=16
theorem ird3_end{text:Bs}{p:F_}{k:Int}{ds:List G_}{q:I_×Int}{f:Nat}{x:Ab_}{b:A3_}{r:RdR}(hb:A5_ ⟨(),ds⟩ (At_ p k) (A9_ q.1)=(b,true,r))(ht:Az_ ⟨b,x.E_,x.notes,x.seen,x.spent⟩=text):C8_ text p k ds q (f+1) 0 8 ⟨[],0⟩ x=(⟨b,x.E_,x.notes,x.seen,x.spent⟩,0):=by
 rw[C8_];have c:decide (((8:Nat):Int)<8)=false:=by decide
 have c1:decide (Vj_ ⟨[],0⟩=0)=true:=by decide
 have c2:decide ((0:Int)=0)=true:=by decide
 rw[c,cond_false,c1,c2,A2,DJ,cond_false,lt,lt,lt,hb];dsimp only;rw[decide_eq_true ht,A2,DJ,cond_false]
theorem iread_fwd{x:Ab_}{p:F_}{k:Int}{r:RdR}(h:PtF p k x)(hb:A5_ (bkRd x) (At_ p k) (A9_ x.E_)=(x.book,true,r)):Hk_ (Az_ x) p k=(x,0):=by
 have⟨h1,h2,h3,h4,h5,h6,h7⟩:=h;have hs:=h1.1.1;have hbn:=h1.1.2.1;have kl:=kb_len h1.2.2.1 h1.2.2.2.1;obtain⟨text,htx⟩:∃ t,Az_ x=t:=⟨_,rfl⟩;have hfull:=ib_full h1;rw[htx] at hfull ⊢;unfold Hk_;have e1:R_ ⟨text,0⟩ 1=((x.book.Bs_.length:Int),⟨x.book.Bs_.flatMap Rh_++(numB 1 x.book.binds.length++(x.book.binds.flatMap Mi_++(numB 4 (X_ x.E_).length++(X_ x.E_++(K8_ x.notes++(sB x.seen 16++pB x.spent 8)))))),0⟩):=by
   rw[hfull,bookB]
   simp only[A7]
   exact I7_ qD
 rw[lt,e1];dsimp only;rw[irs_fwd text p k x.book.Bs_ _ [] qD qD h1.2.1.1];have e2:R_ ⟨numB 1 x.book.binds.length++(x.book.binds.flatMap Mi_++(numB 4 (X_ x.E_).length++(X_ x.E_++(K8_ x.notes++(sB x.seen 16++pB x.spent 8))))),0⟩ 1=((x.book.binds.length:Int),⟨x.book.binds.flatMap Mi_++(numB 4 (X_ x.E_).length++(X_ x.E_++(K8_ x.notes++(sB x.seen 16++pB x.spent 8)))),0⟩):=I7_ qD;rw[ird0_end e2];dsimp only;rw[irb_fwd text p k x.book.binds _ _ qD qD h1.2.1.2];have e3:R_ ⟨numB 4 (X_ x.E_).length++(X_ x.E_++(K8_ x.notes++(sB x.seen 16++pB x.spent 8))),0⟩ 4=(((X_ x.E_).length:Int),⟨X_ x.E_++(K8_ x.notes++(sB x.seen 16++pB x.spent 8)),0⟩):=by
   have :=Qt_ (r:=X_ x.E_++(K8_ x.notes++(sB x.seen 16++pB x.spent 8))) (n:=((X_ x.E_).length:Int)) qD qD
   rwa [AI] at this
 have hw:A0 .i64 ((X_ x.E_).length:Int)=((X_ x.E_).length:Int):=Qm_ ⟨by show (-9223372036854775808:Int)<=_;omega,by show _<=(9223372036854775807:Int);omega⟩;have e4:Fk_ ⟨X_ x.E_++(K8_ x.notes++(sB x.seen 16++pB x.spent 8)),0⟩ (A0 .i64 ((X_ x.E_).length:Int))=(X_ x.E_,⟨K8_ x.notes++(sB x.seen 16++pB x.spent 8),0⟩):=by rw[hw];exact raw_fwd
 have e5:=kof_fwd h2 h4 h5;have e6:=nread_fwd h3 (sB x.seen 16++pB x.spent 8);have⟨x0,hx1,hx2,hx3⟩:=ird1_end (text:=text) (p:=p) (k:=k) (f:=0) (ds:=[]++x.book.Bs_.map Ra_++x.book.binds.map N8_) e3 e4 e5 e6;refine hx3.trans ?_;refine (is_fwd text p k (pB x.spent 8) x.seen h6 16 (16-0+1) x0 qD qD (λi hi=>by omega)).trans ?_;have hp:=ip_fwd text p k ([]++x.book.Bs_.map Ra_++x.book.binds.map N8_) (x.E_,0) 0 [] x.spent h7 8 1 ⟨x0.book,x0.E_,x0.notes,x.seen,x0.spent⟩ qD (λi hi=>by omega);rw[AJ] at hp;refine hp.trans ?_;have hst:x0.E_=x.E_:=hx1;have hno:x0.notes=x.notes:=hx2;have hxx:(⟨x.book,x0.E_,x0.notes,x.seen,x.spent⟩:Ab_)=x:=by rw[hst,hno]
 refine (ird3_end (b:=x.book) (r:=r) (x:=⟨x0.book,x0.E_,x0.notes,x.seen,x.spent⟩) (by rw[AV];exact hb) ?_).trans ?_;show Az_ ⟨x.book,x0.E_,x0.notes,x.seen,x.spent⟩=text;rw[hxx];exact htx;show ((⟨x.book,x0.E_,x0.notes,x.seen,x.spent⟩:Ab_),(0:Int))=(x,0);rw[hxx]
theorem shopOf_none{l:List W_}{n:Bs}(h:∀ s∈l,s.name≠n):Fl_ l n=none:=by
 unfold Fl_;rw[List.find?_eq_none];intro s hs;simpa using h s hs
theorem mk_fwd{b:A3_}{x:W_}(h:L2_ x=0)(hn:∀ s∈b.Bs_,s.name≠x.name)(hl:b.Bs_.length<8):C0_ b x=(⟨b.Bs_++[x],b.binds⟩,0):=by
 unfold C0_;have e:decide (8<=(b.Bs_.length:Int))=false:=decide_eq_false qD;rw[h,shopOf_none hn,e];simp
theorem there_none{b:A3_}{x:Q_}(h:x∉b.binds):By_ b x<0:=by
 unfold By_;by_cases q:0<=idxP (λz_4:Q_=>decide (x=z_4)) b.binds;have h1:=W1_ (p:=λz_4:Q_=>decide (x=z_4)) q;have h2:=Nl_ (λz_4:Q_=>decide (x=z_4)) b.binds;rw[decide_eq_true_eq] at h1;exact (h (h1 ▸ I2_ qD)).elim;omega
theorem bd_fwd{b:A3_}{x:Q_}{s:W_}(hs:Fl_ b.Bs_ x.Bm_=some s)(hr:s.sort≠4)(hn:F1_ x.to'=0)(he:T4_ (Kp_ x s.sort)=0)(hx:x∉b.binds)(hl:b.binds.length<32):Bv_ b x=(⟨b.Bs_,b.binds++[x]⟩,0):=by
 unfold Bv_;have e:decide (32<=(b.binds.length:Int))=false:=decide_eq_false qD;have e2:decide (0<=By_ b x)=false:=decide_eq_false (by have :=there_none hx;omega);have e3:decide (s.sort=4)=false:=decide_eq_false hr;rw[hs];simp only[Option.isSome_some,Option.getD_some,A2,cond_false];have e4:decide (F1_ x.to'=0)=true:=decide_eq_true hn;have e5:decide (T4_ (Kp_ x s.sort)=0)=true:=decide_eq_true he;rw[e3,e4,e5,lt,e2,e];simp
def QS(q0:List M_)(k:I_):Prop:=k.rows.map (·.q)=q0
theorem Yh_{q0:List M_}{k:I_}(h:QS q0 k){i:Int}{l:Ax_}:QS q0 (Ak_ k i l):=by
 unfold QS Ak_;dsimp only;by_cases q:i.toNat<k.rows.length;exact (Nr_ (λr:Go_=>r.q) k.rows i.toNat (gt k.rows i.toNat) ⟨(gt k.rows i.toNat).q,l⟩ (getG q) Z).trans h;rw[C6 qD];exact h
theorem qs_wake0{q0:List M_}:∀ (t:List Go_) (k:Nat) (x:I_),QS q0 x->QS q0 (Cv_ t k x)
 |[],_,_,h=>h
 |_::t,k,_,h=>qs_wake0 t (k+1) _ (Yh_ h)
theorem cloQ(q0:List M_):Clw U64 (λ_=>True) (QS q0) (λ_=>True) where
 kp:=λ{k n m} _ _ h=>by
   unfold B4_ lt
   let Q:I_×Int×Mail×Int->Prop:=λr=>QS q0 r.1/\True
   refine bt (P:=Q) (λ_=>⟨h,trivial⟩) λ_=>bt (P:=Q) (λ_=>⟨h,trivial⟩) λ_=>bt (P:=Q) (λ_=>⟨h,trivial⟩) λ_=>?_
   refine lp2E (P:=Q) (λ_=>True) ?_ λx x1 _=>?_
   . exact bt (P:=LoP _ _) (λ_=>bt (P:=LoP _ _) (λ_=>⟨h,trivial⟩) λ_=>trivial) λ_=>trivial
   . exact bt (P:=Q) (λ_=>⟨h,trivial⟩) λ_=>bt (P:=Q) (λ_=>⟨h,trivial⟩) λ_=>⟨Yh_ h,trivial⟩
 kl:=λ{k n} h=>by
   unfold Dj_ lt
   let Q:I_×Z_×Bool->Prop:=λr=>QS q0 r.1
   exact bt (P:=Q) (λ_=>h) λ_=>Yh_ h
 kr:=λ{k n i} h=>by
   unfold Ba_ lt
   let Q:I_×Z_×Int->Prop:=λr=>QS q0 r.1/\True
   exact bt (P:=Q) (λ_=>⟨h,trivial⟩) λ_=>⟨Yh_ h,trivial⟩
 kb:=λ{k n i} h=>by
   unfold Dx_ lt
   let Q:I_×Int->Prop:=λr=>QS q0 r.1
   exact bt (P:=Q) (λ_=>h) λ_=>Yh_ h
 ks:=λ{k p m} _ h=>by
   unfold Cp_ lt
   let Q:I_×Int->Prop:=λr=>QS q0 r.1
   exact zI
 kw:=λ{k} _ h=>qs_wake0 _ _ _ h
 kt:=λ{k t} _=>trivial
 na:=λ_ _ _=>trivial
 wd:=λh=>h
 wr:=λh=>h
 wb:=λ_=>trivial
 wp:=λ_=>trivial
theorem forget_eq(b:A3_)(n:Bs):D1_ b n=⟨b.Bs_,b.binds.filter λy=>Kh_ y n⟩:=by
 unfold D1_;rw[lt,keep_eq]
def BdG(p:F_)(a:Int)(qs:List M_)(l:List W_)(y:Q_):Prop:=
 (∃ s,Fl_ l y.Bm_=some s/\s.sort≠4/\T4_ (Kp_ y s.sort)=0)/\F1_ y.to'=0 /\
 (y.up=true->0<=Ac_ p y.to'/\Ed_ p a (Ac_ p y.to')=true)/\(y.up=false->∃ q∈qs,q.name=y.to')
def BkG(p:F_)(a:Int)(qs:List M_)(b:A3_):Prop:=
 (b.Bs_.map (·.name)).Nodup/\b.binds.Nodup/\(∀ s∈b.Bs_,L2_ s=0/\(s.sort=4->0<=Ac_ p s.to'/\0<=Au_ p a (Ac_ p s.to')))/\∀ y∈b.binds,BdG p a qs b.Bs_ y
theorem bkg_nil{p:F_}{a:Int}{qs:List M_}:BkG p a qs ⟨[],[]⟩:=⟨List.nodup_nil,List.nodup_nil,(λ_ h=>by cases h),λ_ h=>by cases h⟩
theorem bkg_forget{p:F_}{a:Int}{qs qs':List M_}{b:A3_}{n:Bs}(h:BkG p a qs b)(hq:∀ q∈qs,q.name≠n->q∈qs'):BkG p a qs' (D1_ b n):=by
 rw[forget_eq];have⟨h1,h2,h3,h4⟩:=h;refine⟨h1,h2.filter _,h3,λy hy=>?_⟩;have⟨hy1,hy2⟩:=List.mem_filter.1 hy;have⟨g1,g2,g3,g4⟩:=h4 y hy1;refine⟨g1,g2,g3,λhu=>?_⟩;have⟨q,hq1,hq2⟩:=g4 hu;refine⟨q,hq q hq1 (λe=>?_),hq2⟩;rw[Kh_,hu,Bool.false_or,Bool.not_eq_true',decide_eq_false_iff_not] at hy2;exact hy2 (hq2.symm.trans e)
theorem bkg_more{p:F_}{a:Int}{qs qs':List M_}{b:A3_}(h:BkG p a qs b)(hq:∀ q∈qs,q∈qs'):BkG p a qs' b:=
 ⟨h.1,h.2.1,h.2.2.1,λy hy=>by
   have⟨g1,g2,g3,g4⟩:=h.2.2.2 y hy
   refine⟨g1,g2,g3,λhu=>?_⟩
   have⟨q,hq1,hq2⟩:=g4 hu
   exact⟨q,hq q hq1,hq2⟩⟩
theorem shopOf_app{l:List W_}{x s:W_}{n:Bs}(h:Fl_ l n=some s):Fl_ (l++[x]) n=some s:=by
 unfold Fl_ at h ⊢;rw[DQ,h];rfl
theorem shopOf_nm{l:List W_}{n:Bs}(h:¬(Fl_ l n).isSome=true):∀ s∈l,s.name≠n:=by
 unfold Fl_ at h;intro s hs e
 apply h
 rw[List.find?_isSome];exact⟨s,hs,by simpa using e⟩
theorem bkg_make{p:F_}{a:Int}{qs:List M_}{b:A3_}{x:W_}(h:BkG p a qs b)(hx:x.sort=4->0<=Ac_ p x.to'/\0<=Au_ p a (Ac_ p x.to')):BkG p a qs (C0_ b x).1:=by
 unfold C0_;let Q:A3_×Int->Prop:=λr=>BkG p a qs r.1;refine bt (P:=Q) (λ_=>h) λe1=>bt (P:=Q) (λ_=>h) λ_=>bt (P:=Q) (λ_=>h) λe3=>bt (P:=Q) (λ_=>h) λ_=>?_;simp only[AN,decide_eq_true_eq] at e1;have hn:=shopOf_nm (l:=b.Bs_) (n:=x.name) (by rw[e3];decide);have⟨h1,h2,h3,h4⟩:=h;have hf:[b.Bs_,[x]].flatten=b.Bs_++[x]:=by simp
 refine⟨?_,h2,λs hs=>?_,λy hy=>?_⟩;show (([b.Bs_,[x]].flatten).map (·.name)).Nodup;rw[hf,BK,BW];refine⟨h1,by simp,λu hu v hv=>?_⟩;obtain⟨s,hs,rfl⟩:=List.mem_map.1 hu;simp only[BC,DC,CL] at hv;rw[hv];exact hn s hs
 . rcases P7_ hs with q|q
   exact h3 s q
   rw[q];exact⟨e1,hx⟩
 have⟨⟨s,g1,g2,g3⟩,g4⟩:=h4 y hy;refine⟨⟨s,?_,g2,g3⟩,g4⟩;show Fl_ [b.Bs_,[x]].flatten y.Bm_=some s;rw[hf];exact shopOf_app g1
theorem bkg_bind{p:F_}{a:Int}{qs:List M_}{b:A3_}{x:Q_}(h:BkG p a qs b)(hu:x.up=true->0<=Ac_ p x.to'/\Ed_ p a (Ac_ p x.to')=true)(hq:x.up=false->∃ q∈qs,q.name=x.to'):BkG p a qs (Bv_ b x).1:=by
 unfold Bv_;let Q:A3_×Int->Prop:=λr=>BkG p a qs r.1;refine bt (P:=Q) (λ_=>h) λe1=>bt (P:=Q) (λ_=>h) λe2=>bt (P:=Q) (λ_=>h) λe3=>bt (P:=Q) (λ_=>h) λe4=>?_;unfold lt;refine bt (P:=Q) (λ_=>h) λe5=>bt (P:=Q) (λ_=>h) λ_=>?_;simp only[AN] at e1;simp only[decide_eq_false_iff_not] at e2 e5;simp only[AN,decide_eq_true_eq] at e3 e4;have⟨s,hs⟩:=Option.isSome_iff_exists.1 e1;rw[hs] at e2 e4;have⟨h1,h2,h3,h4⟩:=h;have hf:[b.binds,[x]].flatten=b.binds++[x]:=by simp
 have hnot:x∉b.binds:=λhm=>by
   have hlt:By_ b x<0:=by omega
   unfold By_ at hlt
   have :=List.find?_eq_none.1 (S5_ hlt) x hm
   simp at this
 refine⟨h1,?_,h3,λy hy=>?_⟩;show ([b.binds,[x]].flatten).Nodup;rw[hf,BW];refine⟨h2,by simp,λu hu v hv=>?_⟩;simp only[CL] at hv;rw[hv];intro e;exact hnot (e ▸ hu)
 . rcases P7_ hy with q|q
   exact h4 y q
   rw[q]
   exact⟨⟨s,hs,e2,e4⟩,e3,hu,hq⟩
theorem bkg_unbind{p:F_}{a:Int}{qs:List M_}{b:A3_}{x:Q_}(h:BkG p a qs b):BkG p a qs (Er_ b x).1:=by
 unfold Er_ lt;let Q:A3_×Int->Prop:=λr=>BkG p a qs r.1;refine bt (P:=Q) (λ_=>h) λe=>?_;simp only[decide_eq_false_iff_not] at e;have hk:(By_ b x+1).toNat=(By_ b x).toNat+1:=by omega
 have hs:([b.binds.take (By_ b x).toNat,b.binds.drop (By_ b x+1).toNat].flatten).Sublist b.binds:=by rw[hk];exact Ue_ _ _
 exact⟨h.1,hs.nodup h.2.1,h.2.2.1,λy hy=>h.2.2.2 y (hs.subset hy)⟩
theorem shopOf_cut{l:List W_}{n m:Bs}{k:Nat}(hk:k<l.length)(hm:(gt l k).name=m)(hn:n≠m):Fl_ [l.take k,l.drop (k+1)].flatten n=Fl_ l n:=by
 have hg:l.drop k=gt l k::l.drop (k+1):=dropG hk;have hl:l=l.take k++(gt l k::l.drop (k+1)):=by rw[<- hg,B6]
 have hf:[l.take k,l.drop (k+1)].flatten=l.take k++l.drop (k+1):=by simp
 rw[hf]
 conv=>rhs;rw[hl]
 unfold Fl_;rw[DQ,DQ,List.find?_cons_of_neg];rw[decide_eq_true_eq,hm];exact λe=>hn e.symm
theorem bkg_drop{p:F_}{a:Int}{qs:List M_}{b:A3_}{n:Bs}(h:BkG p a qs b):BkG p a qs (Ft_ b n).1:=by
 have hb:=Nl_ (λz_5:W_=>(D9_ z_5 n)) b.Bs_;unfold Ft_ lt;let Q:A3_×Int->Prop:=λr=>BkG p a qs r.1;refine bt (P:=Q) (λ_=>h) λe=>?_;simp only[decide_eq_false_iff_not] at e;have hp:=W1_ (p:=λz_5:W_=>(D9_ z_5 n)) (l:=b.Bs_) qD;generalize idxP (λz_5:W_=>(D9_ z_5 n)) b.Bs_=r at *;have hk:(r+1).toNat=r.toNat+1:=by omega
 rw[hk,keep_eq];have hs:=Ue_ b.Bs_ r.toNat;have hnm:(gt b.Bs_ r.toNat).name=n:=by simpa [D9_] using hp
 refine⟨(hs.map _).nodup h.1,h.2.1.filter _,λs hm=>h.2.2.1 s (hs.subset hm),λy hy=>?_⟩;have⟨hy1,hy2⟩:=List.mem_filter.1 hy;have⟨⟨s,g1,g2,g3⟩,g4⟩:=h.2.2.2 y hy1;have hne:y.Bm_≠n:=by simpa [N7_] using hy2
 refine⟨⟨s,?_,g2,g3⟩,g4⟩;show Fl_ [b.Bs_.take r.toNat,b.Bs_.drop (r.toNat+1)].flatten y.Bm_=some s;rw[shopOf_cut qD hnm hne];exact g1
def SbG(s:D_):Prop:=BkG s.U_ s.place (s.x.E_.rows.map (·.q)) s.x.book
theorem make_more{k:I_}{q:M_}:∀ x∈k.rows.map (·.q),x∈(Bb_ k q).1.rows.map (·.q):=by
 unfold Bb_ lt;let R:I_×Int->Prop:=λr=>∀ x∈k.rows.map (·.q),x∈r.1.rows.map (·.q);refine bt (P:=R) (λ_ _ h=>h) λ_=>bt (P:=R) (λ_ _ h=>h) λ_=>bt (P:=R) (λ_ _ h=>h) λ_=>bt (P:=R) (λ_ _ h=>h) λ_=>λx hx=>?_;show x∈([k.rows,[(⟨q,⟨[]⟩⟩:Go_)]].flatten).map (·.q);simp only[AP,AU,AJ,BK,CK];exact .inl hx
theorem drop_more{k:I_}{n:Bs}:∀ x∈k.rows.map (·.q),x.name≠n->x∈(Bz_ k n).1.rows.map (·.q):=by
 have hb:=at_b k n;unfold Bz_ lt;let R:I_×Int->Prop:=λr=>∀ x∈k.rows.map (·.q),x.name≠n->x∈r.1.rows.map (·.q);refine bt (P:=R) (λ_ _ h _=>h) λe=>λx hx hne=>?_;simp only[decide_eq_false_iff_not] at e;obtain⟨r,hr,rfl⟩:=List.mem_map.1 hx;have hat:=at_n (s:=k) (n:=n) qD;refine List.mem_map.2 ⟨r,?_,rfl⟩;show r∈[k.rows.take (O_ k n).toNat,k.rows.drop (O_ k n+1).toNat].flatten;have hk:(O_ k n+1).toNat=(O_ k n).toNat+1:=by omega
 rw[hk];have hg:k.rows.drop (O_ k n).toNat=gt k.rows (O_ k n).toNat::k.rows.drop ((O_ k n).toNat+1):=dropG qD;have hl:k.rows=k.rows.take (O_ k n).toNat++(gt k.rows (O_ k n).toNat::k.rows.drop ((O_ k n).toNat+1)):=by rw[<- hg,B6]
 rw[hl] at hr;simp only[AP,AU,AJ]
 rcases List.mem_append.1 hr with q|q
 exact List.mem_append.2 (.inl q)
 . rcases List.mem_cons.1 q with q|q
   exact (hne (by rw[q];exact hat)).elim
   exact List.mem_append.2 (.inr q)
theorem queue_in{k:I_}{n:Bs}(h:(Av_ k n).2=true):∃ q∈k.rows.map (·.q),q.name=n:=by
 have hb:=at_b k n;by_cases e:O_ k n<0
 . unfold Av_ at h
   rw[lt,decide_eq_true e] at h
   cases h
 have hat:=at_n (s:=k) (n:=n) qD;exact⟨_,List.mem_map.2 ⟨_,I2_ qD,rfl⟩,hat⟩
theorem drop_same{k:I_}{n:Bs}(h:¬(Bz_ k n).2=0):(Bz_ k n).1=k:=by
 revert h
 unfold Bz_ lt;let R:I_×Int->Prop:=λr=>¬r.2=0->r.1=k;exact bt (P:=R) (λ_ _=>rfl) λ_ h=>(h Z).elim
theorem doBk{s:D_}{d:G_}(ht:U64 d.tick)(hc:0<=d.code/\d.code<=255)(h:StOk s)(h0:0<=d.Ah_.hops)(hs:SbG s):SbG (H_ s d).1:=by
 have key:∀ t:D_,Kw U64 (QS (s.x.E_.rows.map (·.q))) (λ_=>True) s t->SbG t:=λt e=>by
   have hk:t.x.E_.rows.map (·.q)=s.x.E_.rows.map (·.q):=e.k
   unfold SbG
   rw[e.po,e.pl,e.bo,hk]
   exact hs
 rcases do_w (cloQ (s.x.E_.rows.map (·.q))) ht hc h h0 trivial (⟨rfl,rfl,rfl,rfl,trivial,rfl,λ_=>id⟩:Kw U64 (QS (s.x.E_.rows.map (·.q))) (λ_=>True) s s) with e|(e|e)|e|e
 rw[e];exact hs;exact key _ e;have hk:(H_ s d).1.x.E_.rows.map (·.q)=s.x.E_.rows.map (·.q):=e.k;have h1:(H_ s d).1.U_=s.U_:=e.po;have h2:(H_ s d).1.place=s.place:=e.pl;have h3:(H_ s d).1.x.book=s.x.book:=e.bo;unfold SbG;rw[h1,h2,h3,hk];exact hs;rw[e];unfold Bh_ lt;let Q:D_×Int->Prop:=λr=>SbG r.1;refine bt (P:=Q) (λ_=>bkg_more hs make_more) λ_=>bt (P:=Q) (λ_=>bkg_forget hs drop_more) λe2=>?_;simp only[decide_eq_false_iff_not] at e2;show BkG s.U_ s.place ((Bz_ s.x.E_ d.name).1.rows.map (·.q)) s.x.book;rw[drop_same e2];exact hs;rw[e];unfold Bc_ lt;let Q:D_×Int->Prop:=λr=>SbG r.1;have hn:∀ {e},Q (s,e):=hs;refine bt (P:=Q) (λ_=>?_) λ_=>?_;refine lp0E (P:=Q) (λ_=>d.Bm_.sort=4->0<=Ac_ s.U_ d.Bm_.to'/\0<=Au_ s.U_ s.place (Ac_ s.U_ d.Bm_.to')) ?_ λhx=>bkg_make hs hx;refine bt (P:=LoP _ _) (λ_=>bt (P:=LoP _ _) (λ_=>hn) λc2=>bt (P:=LoP _ _) (λ_=>hn) λc3=>?_) λc=>?_;simp only[decide_eq_false_iff_not] at c2 c3;exact λ_=>⟨by omega,by omega⟩;simp only[decide_eq_false_iff_not] at c;exact λh4=>(c h4).elim;refine bt (P:=Q) (λ_=>bkg_drop hs) λ_=>bt (P:=Q) (λ_=>bkg_unbind hs) λ_=>lp0E (P:=Q) (λ_=>(d.bind.up=true->0<=Ac_ s.U_ d.bind.to'/\Ed_ s.U_ s.place (Ac_ s.U_ d.bind.to')=true)/\(d.bind.up=false->(Av_ s.x.E_ d.bind.to').2=true)) ?_ λhx=>bkg_bind hs hx.1 λhu=>queue_in (hx.2 hu);unfold lt1;refine bt (P:=LoP _ _) (λ_=>hn) λc=>bt (P:=LoP _ _) (λ_=>hn) λc2=>⟨λhu=>?_,λhu=>?_⟩;rw[hu] at c c2;simp only[EN,AN] at c c2;refine⟨?_,c2⟩;by_cases q:Ac_ s.U_ d.bind.to'<0
 . rw[decide_eq_true q] at c;cases c
 omega;rw[hu] at c;simpa using c
theorem dshop_e{s:W_}(h:L2_ s=0):Fj_ (Ra_ s)=0:=by
 have h3:=U0_ h;unfold L2_ at h
 split at h
 exact uW
 . rename_i q1
   split at h
   . cases h
   have hm:Me_ s.to'=0:=by
     unfold Me_
     split at h
     . split<;>first|rfl|exact h
     . split at h
       . cases h
       . rename_i q3
         rw[if_pos (by simpa using q3)]
   have hn:F1_ s.name=0:=by simpa using q1
   unfold Fj_ Ra_
   rw[if_neg (show ¬(12:Int)<0 by decide),if_neg oF,if_pos Z]
   simp[Kj_,I5_,hn,hm,h3.2.2]
def Wm_(q:M_):G_:=(⟨2,0,aO,q,aP,[],0,0,0,0,0,aJ,[]⟩:G_)
theorem dqueue_e{q:M_}(h:Bw_ q=0):Fj_ (Wm_ q)=0:=by
 have hn:F1_ q.name=0:=by
   by_cases e:F1_ q.name=0
   . exact e
   . unfold Bw_ at h
     rw[decide_eq_false e] at h
     exact (e h).elim
 have hm:Me_ q.dead=0:=by
   unfold Me_
   by_cases e:q.dead=[]
   . rw[if_pos e]
   . rw[if_neg e]
     unfold Bw_ at h
     rw[decide_eq_true hn,decide_eq_false e] at h
     revert h
     cases ((decide (q.most<1))||(decide (64<q.most))) with
     |true=>intro h;cases h
     |false=>intro h;exact h
 unfold Fj_ Wm_;rw[if_neg (show ¬(12:Int)<2 by decide),if_neg oF,if_neg (show ¬(2:Int)=0 by decide),if_pos Z];simp[Kj_,hn,hm]
theorem dbind_e{y:Q_}(hb:BiB y)(hs:F1_ y.Bm_=0):Fj_ (N8_ y)=0:=by
 have⟨h1,h2,h3,h4,_⟩:=hb;unfold Fj_ N8_;rw[if_neg (show ¬(12:Int)<4 by decide),if_neg oF,if_neg (show ¬(4:Int)=0 by decide),if_neg (show ¬(4:Int)=2 by decide),if_pos (.inl Z)];simp[Kj_,I5_,hs,h2,h4];omega
theorem cloK(b:Int):Clw U64 (λ_=>True) (KOk b) (λ_=>True) where
 kp:=λ{k n m} hs _ h=>⟨kput_k (n:=n) (m:=m) hs h,trivial⟩
 kl:=λ{k n} h=>klend_k (n:=n) h
 kr:=λ{k n i} h=>⟨krem_k (n:=n) (id:=i) h,trivial⟩
 kb:=λ{k n i} h=>kback_k (n:=n) (id:=i) h
 ks:=λ{k p m} _ h=>kraise_k (p:=p) (m:=m) h
 kw:=λ{k} _ h=>kwake_k h
 kt:=λ{k t} _=>trivial
 na:=λ_ _ _=>trivial
 wd:=λh=>h
 wr:=λh=>h
 wb:=λ_=>trivial
 wp:=λ_=>trivial
def Sn(a:A16_u64):Prop:=∀ i,i<16->U64 (A16.get a i)
theorem Sn.set{a:A16_u64}(h:Sn a){x:Int}(hx:U64 x)(k:Nat):Sn (A16.set a x k):=by
 have key:∀ k,k<16->Sn (A16.set a x k):=λk hk i hi=>by
   rw[A16.get_set _ _ _ _ hk hi]
   by_cases q:i=k
   . rw[if_pos q];exact hx
   . rw[if_neg q];exact h i hi
 by_cases q:k<16;exact key k q;obtain⟨n,rfl⟩:∃ n,k=n+16:=⟨_,(DL qD).symm⟩;exact key 15 qF
structure Rk(p:F_)(a b:Int)(s:D_):Prop where
 po:s.U_=p
 pl:s.place=a
 k:KOk b s.x.E_
 se:Sn s.x.seen
 sp:Sp s.x.spent
theorem doK{p:F_}{a b:Int}{s:D_}{d:G_}(ht:U64 d.tick)(hc:0<=d.code/\d.code<=255)(hn:U64 d.number)(h:StOk s)(h0:0<=d.Ah_.hops)(hs:Rk p a b s):Rk p a b (H_ s d).1:=by
 have⟨h1,h2,h3,h4,h5⟩:=hs
 rcases do_w (cloK b) ht hc h h0 trivial (⟨rfl,rfl,rfl,h3,trivial,rfl,λ_=>id⟩:Kw U64 (KOk b) (λ_=>True) s s) with e|(e|e)|e|e
 rw[e];exact⟨h1,h2,h3,h4,h5⟩;exact⟨e.po.trans h1,e.pl.trans h2,e.k,by rw[e.se];exact h4,e.sp (λ_ h=>h) h5⟩;exact⟨e.po.trans h1,e.pl.trans h2,e.k,by rw[e.se];exact h4.set hn _,e.sp (λ_ h=>h) h5⟩
 . have⟨c,k,e2,e3,_⟩:=V7_ s d
   rw[e,e2]
   refine⟨h1,h2,?_,h4,h5⟩
   show KOk b k
   rcases e3 with rfl|rfl
   exact kmake_k h3
   exact kdrop_k h3
 have⟨c,e2,_⟩:=shops_x s d;rw[e,e2];exact⟨h1,h2,h3,h4,h5⟩
theorem do_q{s:D_}{d:G_}(he:Fj_ d=0)(hk:d.kind=2)(hz:(Bh_ s d).2=0):(H_ s d).1=(Bh_ s d).1/\(H_ s d).2.2=0:=by
 unfold H_;have c:(!decide (Fj_ d=0))=false:=by rw[decide_eq_true he];rfl
 rw[c,cond_false,hk];unfold lt3 lt1 lt;have c1:decide ((2:Int)=2)=true:=rfl;rw[c1];simp only[cond_true];have c2:(!decide ((Bh_ s d).2=0))=false:=by rw[decide_eq_true hz];rfl
 rw[c2];exact⟨rfl,rfl⟩
theorem do_sh{s:D_}{d:G_}(he:Fj_ d=0)(hk:d.kind=0\/d.kind=4)(hz:(Bc_ s d).2=0):(H_ s d).1=(Bc_ s d).1/\(H_ s d).2.2=0:=by
 unfold H_;have c:(!decide (Fj_ d=0))=false:=by rw[decide_eq_true he];rfl
 rw[c,cond_false];unfold lt3 lt1 lt;have n:∀ k:Int,k≠0->k≠4 -> decide (d.kind=k)=false:=λk h0 h4=>decide_eq_false (by rcases hk with e|e<;>rw[e]<;>omega);rw[n 2 qF qF,n 3 qF qF,n 6 qF qF,n 7 qF qF,n 8 qF qF,n 9 qF qF,n 10 qF qF,n 11 qF qF,n 12 qF qF];simp only[cond_false];have c2:(!decide ((Bc_ s d).2=0))=false:=by rw[decide_eq_true hz];rfl
 rw[c2];exact⟨rfl,rfl⟩
theorem do_queue{s:D_}{q:M_}(hc:Bw_ q=0)(hn:∀ r∈s.x.E_.rows,r.q.name≠q.name)(hl:s.x.E_.rows.length<8):(H_ s (Wm_ q)).1=⟨⟨s.x.book,⟨s.x.E_.next,s.x.E_.bytes,s.x.E_.rows++[⟨q,⟨[]⟩⟩],s.x.E_.rises⟩,s.x.notes,s.x.seen,s.x.spent⟩,s.U_,s.place⟩:=by
 have hm:=make_fwd hc hn hl;have e:Bh_ s (Wm_ q)=(⟨⟨s.x.book,⟨s.x.E_.next,s.x.E_.bytes,s.x.E_.rows++[⟨q,⟨[]⟩⟩],s.x.E_.rises⟩,s.x.notes,s.x.seen,s.x.spent⟩,s.U_,s.place⟩,0):=by
   unfold Bh_
   have c1:decide ((Wm_ q).kind=2)=true:=rfl
   rw[c1,cond_true,lt,show (Wm_ q).queue=q from rfl,hm]
 rw[(do_q (dqueue_e hc) rfl qT).1,e]
theorem do_shop{s:D_}{x:W_}(h:L2_ x=0)(hx:x.sort=4->0<=Ac_ s.U_ x.to'/\0<=Au_ s.U_ s.place (Ac_ s.U_ x.to'))(hn:∀ y∈s.x.book.Bs_,y.name≠x.name)(hl:s.x.book.Bs_.length<8):(H_ s (Ra_ x)).1=⟨⟨⟨s.x.book.Bs_++[x],s.x.book.binds⟩,s.x.E_,s.x.notes,s.x.seen,s.x.spent⟩,s.U_,s.place⟩/\(H_ s (Ra_ x)).2.2=0:=by
 have hm:=mk_fwd h hn hl;have e:Bc_ s (Ra_ x)=(⟨⟨⟨s.x.book.Bs_++[x],s.x.book.binds⟩,s.x.E_,s.x.notes,s.x.seen,s.x.spent⟩,s.U_,s.place⟩,0):=by
   unfold Bc_
   have c1:decide ((Ra_ x).kind=0)=true:=rfl
   have c2:(Ra_ x).Bm_=x:=rfl
   rw[c1,cond_true,c2]
   unfold lt
   dsimp only
   by_cases q:x.sort=4
   . have⟨h1,h2⟩:=hx q
     rw[decide_eq_true q,cond_true,decide_eq_false (show ¬Ac_ s.U_ x.to'<0 by omega),cond_false,decide_eq_false (show ¬Au_ s.U_ s.place (Ac_ s.U_ x.to')<0 by omega),cond_false]
     show (_,_)=_
     rw[hm]
   . rw[decide_eq_false q,cond_false]
     show (_,_)=_
     rw[hm]
 have hd:=do_sh (s:=s) (dshop_e h) (.inl Z) qT;rw[e] at hd;exact hd
theorem do_bind{s:D_}{y:Q_}(hb:BiB y)(hd:BdG s.U_ s.place (s.x.E_.rows.map (·.q)) s.x.book.Bs_ y)(hs:F1_ y.Bm_=0)(hq:y.up=false->(Av_ s.x.E_ y.to').2=true)(hx:y∉s.x.book.binds)(hl:s.x.book.binds.length<32):(H_ s (N8_ y)).1=⟨⟨⟨s.x.book.Bs_,s.x.book.binds++[y]⟩,s.x.E_,s.x.notes,s.x.seen,s.x.spent⟩,s.U_,s.place⟩/\(H_ s (N8_ y)).2.2=0:=by
 have⟨⟨sh,g1,g2,g3⟩,g4,g5,_⟩:=hd;have hm:=bd_fwd g1 g2 g4 g3 hx hl;have e:Bc_ s (N8_ y)=(⟨⟨⟨s.x.book.Bs_,s.x.book.binds++[y]⟩,s.x.E_,s.x.notes,s.x.seen,s.x.spent⟩,s.U_,s.place⟩,0):=by
   unfold Bc_
   have c1:decide ((N8_ y).kind=0)=false:=rfl
   have c2:decide ((N8_ y).kind=1)=false:=rfl
   have c3:decide ((N8_ y).kind=5)=false:=rfl
   have c4:(N8_ y).bind=y:=rfl
   rw[c1,cond_false,c2,cond_false,c3,cond_false,c4]
   unfold lt lt1
   dsimp only
   cases hu:y.up with
   |true=>
     have⟨h1,h2⟩:=g5 hu
     rw[decide_eq_false (show ¬Ac_ s.U_ y.to'<0 by omega),h2]
     simp only[EN,A2,BH,cond_false]
     show (_,_)=_
     rw[hm]
   |false=>
     rw[hq hu]
     simp only[BH,AE,EN,A2,cond_false]
     show (_,_)=_
     rw[hm]
 have hd:=do_sh (s:=s) (dbind_e hb hs) (.inr Z) qT;rw[e] at hd;exact hd
theorem rb0(r:RdR):∀ (t:List M_) (x:D_),(∀ q∈t,Bw_ q=0)->x.x.E_.rows.length+t.length<=8->((x.x.E_.rows.map (·.q)++t).map (·.name)).Nodup->∃ y:D_,Cg_ r t x=A6_ r r.E1_ y/\y.U_=x.U_/\y.place=x.place/\y.x.book=x.x.book/\y.x.E_.rows.map (·.q)=x.x.E_.rows.map (·.q)++t
 |[],x,_,_,_=>⟨x,by rw[Cg_],rfl,rfl,rfl,by simp⟩
 |q::t,x,hc,hl,hn=>by
   simp only[A3] at hl
   have hnq:∀ y∈x.x.E_.rows,y.q.name≠q.name:=by
     intro y hy e
     rw[BK,BW] at hn
     exact hn.2.2 y.q.name (List.mem_map.2 ⟨y.q,List.mem_map.2 ⟨y,hy,rfl⟩,rfl⟩) q.name qI e
   have hd:=do_queue (s:=x) (hc q qI) hnq qD
   have⟨y,h1,h2,h3,h4,h5⟩:=rb0 r t (H_ x (Wm_ q)).1 (λz hz=>hc z qX) (by rw[hd];simp;omega) (by rw[hd];simpa using hn)
   refine⟨y,?_,?_,?_,?_,?_⟩
   . rw[Cg_]
     exact h1
   . rw[h2,hd]
   . rw[h3,hd]
   . rw[h4,hd]
   . rw[h5,hd];simp
theorem rb1(r:RdR)(rest:List G_):∀ (t:List W_) (x:D_),(∀ s∈t,L2_ s=0/\(s.sort=4->0<=Ac_ x.U_ s.to'/\0<=Au_ x.U_ x.place (Ac_ x.U_ s.to')))->x.x.book.Bs_.length+t.length<=8->((x.x.book.Bs_++t).map (·.name)).Nodup->∃ y:D_,A6_ r (t.map Ra_++rest) x=A6_ r rest y/\y.U_=x.U_/\y.place=x.place/\y.x.book=⟨x.x.book.Bs_++t,x.x.book.binds⟩/\y.x.E_=x.x.E_
 |[],x,_,_,_=>⟨x,by simp,rfl,rfl,by simp,rfl⟩
 |s::t,x,hc,hl,hn=>by
   simp only[A3] at hl
   have hns:∀ y∈x.x.book.Bs_,y.name≠s.name:=by
     intro y hy e
     rw[BK,BW] at hn
     exact hn.2.2 y.name (List.mem_map.2 ⟨y,hy,rfl⟩) s.name qI e
   have⟨c1,c2⟩:=hc s qI
   have⟨d1,d2⟩:=do_shop (s:=x) c1 c2 hns qD
   have⟨y,h1,h2,h3,h4,h5⟩:=rb1 r rest t (H_ x (Ra_ s)).1 (λz hz=>by rw[d1];exact hc z qX) (by rw[d1];simp;omega) (by rw[d1];simpa using hn)
   refine⟨y,?_,?_,?_,?_,?_⟩
   . rw[BC,D0,A6_.eq_2]
     unfold lt
     dsimp only
     have hs:Jm_ (S_ x).book (S_ (H_ x (Ra_ s)).1).book=false:=by
       rw[d1]
       unfold Jm_ S_
       dsimp only
       rw[decide_eq_false nC,BH]
     rw[hs,d2]
     exact h1
   . rw[h2,d1]
   . rw[h3,d1]
   . rw[h4,d1];simp
   . rw[h5,d1]
theorem rb2(r:RdR):∀ (t:List Q_) (x:D_),(∀ y∈t,BiB y/\BdG x.U_ x.place (x.x.E_.rows.map (·.q)) x.x.book.Bs_ y/\F1_ y.Bm_=0)->x.x.book.binds.length+t.length<=32->(x.x.book.binds++t).Nodup->∃ y:D_,A6_ r (t.map N8_) x=A6_ r [] y/\y.x.book=⟨x.x.book.Bs_,x.x.book.binds++t⟩
 |[],x,_,_,_=>⟨x,by simp,by simp⟩
 |b::t,x,hc,hl,hn=>by
   simp only[A3] at hl
   have hns:b∉x.x.book.binds:=by
     intro hy
     rw[BW] at hn
     exact hn.2.2 b hy b qI rfl
   have⟨c1,c2,c3⟩:=hc b qI
   have hq:b.up=false->(Av_ x.x.E_ b.to').2=true:=by
     intro hu
     have⟨q,q1,q2⟩:=c2.2.2.2 hu
     have⟨w,w1,w2⟩:=List.mem_map.1 q1
     have :¬O_ x.x.E_ b.to'<0:=λhlt=>at_neg hlt w w1 (by rw[w2];exact q2)
     unfold Av_
     rw[lt,decide_eq_false this]
     rfl
   have⟨d1,d2⟩:=do_bind (s:=x) c1 c2 c3 hq hns qD
   have⟨y,h1,h2⟩:=rb2 r t (H_ x (N8_ b)).1 (λz hz=>by rw[d1];exact hc z qX) (by rw[d1];simp;omega) (by rw[d1];simpa using hn)
   refine⟨y,?_,?_⟩
   . rw[BC,A6_.eq_2]
     unfold lt
     dsimp only
     have hs:Jm_ (S_ x).book (S_ (H_ x (N8_ b)).1).book=false:=by
       rw[d1]
       unfold Jm_ S_ Qs_
       dsimp only
       rw[decide_eq_false (show ¬((x.x.book.binds.length:Int)=((x.x.book.binds++[b]).length:Int)) by simp;omega),AE,cond_true,GC]
     rw[hs,d2]
     exact h1
   . rw[h2,d1];simp
theorem shopOf_in{l:List W_}{n:Bs}{s:W_}(h:Fl_ l n=some s):s∈l/\s.name=n:=by
 unfold Fl_ at h;exact⟨List.mem_of_find?_eq_some h,by simpa using G0 h⟩
theorem shopE_nm{s:W_}(h:L2_ s=0):F1_ s.name=0:=by
 have :=dshop_e h;unfold L2_ at h
 split at h
 exact uW
 . rename_i q;simpa using q
theorem book_fwd{p:F_}{k:Int}{x:Ab_}(hr:∀ r∈x.E_.rows,Bw_ r.q=0)(hl:x.E_.rows.length<=8)(hn:(x.E_.rows.map (·.q.name)).Nodup)(hs:x.book.Bs_.length<=8)(hb:x.book.binds.length<=32)(hB:BkB x.book)(hG:BkG p k (x.E_.rows.map (·.q)) x.book):A5_ (bkRd x) (At_ p k) (A9_ x.E_)=(x.book,true,bkRd x):=by
 have⟨g1,g2,g3,g4⟩:=hG;unfold A5_;rw[queues_eq];have⟨y,a1,a2,a3,a4,a5⟩:=rb0 (bkRd x) (x.E_.rows.map (·.q)) (At_ p k) (λq hq=>by obtain⟨w,w1,rfl⟩:=List.mem_map.1 hq;exact hr w w1) (by simp[At_,lt,Aw_,Bl_];exact hl) (by simpa [At_,lt,Aw_,Bl_,Function.comp_def] using hn);have e1:(At_ p k).U_=p:=rfl;have e2:(At_ p k).place=k:=rfl;have e3:(At_ p k).x.book=⟨[],[]⟩:=rfl;have e4:(At_ p k).x.E_.rows=[]:=rfl;rw[e1] at a2;rw[e2] at a3;rw[e3] at a4;rw[e4,DC,AV] at a5;have⟨z,b1,b2,b3,b4,b5⟩:=rb1 (bkRd x) (x.book.binds.map N8_) x.book.Bs_ y (λs h=>by rw[a2,a3];exact g3 s h) (by rw[a4];simp;exact hs) (by rw[a4];simpa using g1);rw[a2] at b2;rw[a3] at b3;rw[a4] at b4;simp only[AV] at b4
 have⟨w,c1,c2⟩:=rb2 (bkRd x) x.book.binds z (λb h=>by
   rw[b2,b3,b4,b5,a5]
   refine⟨hB.2 b h,g4 b h,?_⟩
   have⟨⟨s,s1,s2,s3⟩,_⟩:=g4 b h
   have⟨t1,t2⟩:=shopOf_in s1
   rw[<- t2]
   exact shopE_nm (g3 s t1).1) (by rw[b4];simp;exact hb) (by rw[b4];simpa using g2)
 rw[b4] at c2;simp only[AV] at c2;rw[a1];show A6_ (bkRd x) (x.book.Bs_.map Ra_++x.book.binds.map N8_) y=_;rw[b1,c1,A6_.eq_1];unfold lt S_;dsimp only;rw[c2]
def DdF(d:G_):Prop:=U64 d.tick/\(0<=d.code/\d.code<=255)/\0<=d.Ah_.hops/\0<=d.Bm_.sort/\(∀ p∈d.bind.want,p.wf)/\Wf d.Ah_/\U64 d.queue.most/\U64 d.queue.life/\U64 d.number/\0<=d.frm
theorem deed_f1{d:G_}(h:PV.wfs (G_.pc d)):DdF d:=by
 have hw:=G_.pwf h;have⟨h1,h2,h3,h4,h5,h6,h7,h8,h9,h10,h11,h12,h13⟩:=hw;have ha:∀ p∈d.bind.want,p.wf:=λp hp=>Pair.pwf (h.2.2.2.2.2.2.2.2.2.2.2.2.2.1.2 p hp);have hb:∀ p∈d.Ah_.head,p.wf:=λp hp=>Pair.pwf (h.2.2.2.2.2.2.2.2.2.2.2.2.2.2.2.2.2.2.2.2.2.2.2.2.1.2 p hp);simp only[Mail.wf,M_.wf,W_.wf] at h12 h4 h3;exact⟨h2,h10,by omega,by omega,ha,⟨⟨⟨by omega,by omega⟩,⟨by omega,by omega⟩,by omega,by omega⟩,hb⟩,⟨by omega,by omega⟩,⟨by omega,by omega⟩,h11,by omega⟩
structure Rt(p:F_)(k:Int)(s:D_):Prop where
 ok:StOk s
 b:StB s
 g:KG s.x.E_
 n:NtF s.x.notes
 bk:SbG s
 rk:Rk p k (max 0 (gt p.places k.toNat).bytes) s
theorem Rt.po{p:F_}{k:Int}{s:D_}(h:Rt p k s):s.U_=p:=h.rk.po
theorem Rt.pl{p:F_}{k:Int}{s:D_}(h:Rt p k s):s.place=k:=h.rk.pl
theorem a16_zero:∀ i,i<16->A16.get (⟨0,0,0,0,0,0,0,0,0,0,0,0,0,0,0,0⟩:A16_u64) i=0:=bw16 Z Z Z Z Z Z Z Z Z Z Z Z Z Z Z Z
theorem a8_zero:∀ i,i<8->A8.get (⟨aK,aK,aK,aK,aK,aK,aK,aK⟩:A8_SpentR) i=⟨0,0⟩:=by
 intro i hi
 match i,hi with
 |0,_=>rfl
 |1,_=>rfl
 |2,_=>rfl
 |3,_=>rfl
 |4,_=>rfl
 |5,_=>rfl
 |6,_=>rfl
 |7,_=>rfl
theorem kok_new(p:F_)(k:Int):KOk (max 0 (gt p.places k.toNat).bytes) (At_ p k).x.E_:=by
 refine⟨rfl,?_⟩;show rz []+uz _ 16<=max 0 (gt p.places k.toNat).bytes;have h2:uz (At_ p k).x.E_.rises 16=0:=by
   unfold At_ lt Aw_ Bl_
   rfl
 rw[h2];show (0:Int)+0<=_;omega
theorem rt_new{p:F_}{k:Int}(hp:PoOk p)(hk:0<=k/\k<p.places.length)(hb:∀ y∈p.places,U64 y.base):Rt p k (At_ p k):=by
 have hn:U64 (At_ p k).x.E_.next :=hb _ (I2_ (xs:=p.places) (k:=k.toNat) qD);have⟨h1,h2⟩:=newG hn
 exact ⟨M4_ hp hk,newB p k,h1,h2,bkg_nil,⟨rfl,rfl,kok_new p k,λi hi=>by
   rw[show (At_ p k).x.seen=⟨0,0,0,0,0,0,0,0,0,0,0,0,0,0,0,0⟩ from rfl,a16_zero i hi]
   exact u64_0,λi hi=>by
   have :=a8_zero i hi
   rw[show (At_ p k).x.spent=⟨⟨0,0⟩,⟨0,0⟩,⟨0,0⟩,⟨0,0⟩,⟨0,0⟩,⟨0,0⟩,⟨0,0⟩,⟨0,0⟩⟩ from rfl,this]
   exact u64_0⟩⟩
theorem rt_do{p:F_}{k:Int}{s:D_}{d:G_}(h:Rt p k s)(hd:DdOk d)(hf:DdF d):Rt p k (H_ s d).1:=by
 have⟨f1,f2,f3,f4,f5,f6,f7,f8,f9,f10⟩:=hf;have hg:=doG f1 f2 h.ok f3 f6 f7 f8 h.g h.n;exact⟨Uh_ h.ok hd f3,doB f2 h.ok f3 f4 f5 h.b,hg.1,hg.2,doBk f1 f2 h.ok f3 h.bk,doK f1 f2 f9 h.ok f3 h.rk⟩
theorem rt_ptf{p:F_}{k:Int}{s:D_}(h:Rt p k s):PtF p k s.x:=by
 refine⟨im_st h.ok h.b,kf_of h.ok.1.2.1 h.b.2.1 h.g,h.n,h.rk.k.1,?_,h.rk.se,λi hi=>⟨h.rk.sp i hi,h.ok.1.2.2.2 i hi⟩⟩;have :=h.rk.k.2;have h2:=h.rk.k.1;unfold Ek_;rw[ksize_eq];omega
theorem rt_read{p:F_}{k:Int}{s:D_}(h:Rt p k s):Hk_ (Az_ (S_ s)) p k=(S_ s,0):=by
 have hbk:=h.bk;unfold SbG at hbk;rw[h.po,h.pl] at hbk;exact iread_fwd (rt_ptf h) (book_fwd h.b.2.1 h.ok.1.2.1.1.1 h.ok.1.2.1.1.2.2 h.ok.1.1.1 h.ok.1.1.2.1 h.b.1 hbk)
theorem rt_with{p:F_}{k:Int}{s:D_}(h:Rt p k s):Aw_ p k (S_ s)=s:=by
 unfold Aw_ S_;rw[<- h.po,<- h.pl]
theorem Y3_{d:G_}(hk:0<=d.kind):(Bd_ d).length<=3200:=by
 by_cases h:Fj_ d=0
 . have ok:=Qr_ hk h
   have⟨k1,k2,k3,k4,k5,k6,k7,k8,k9,k10,k11,k12,k13,k14,k15,k16,k17,k18,k19⟩:=ok
   have e1:∀ o,J_ o d.Bm_.name=⟨o.s++txtB d.Bm_.name,o.err⟩:=λo=>Bq_ qD
   have e2:∀ o,J_ o d.Bm_.to'=⟨o.s++txtB d.Bm_.to',o.err⟩:=λo=>Bq_ qD
   have e3:∀ o,J_ o d.queue.name=⟨o.s++txtB d.queue.name,o.err⟩:=λo=>Bq_ qD
   have e4:∀ o,J_ o d.queue.dead=⟨o.s++txtB d.queue.dead,o.err⟩:=λo=>Bq_ qD
   have e5:∀ o,J_ o d.bind.Bm_=⟨o.s++txtB d.bind.Bm_,o.err⟩:=λo=>Bq_ qD
   have e6:∀ o,J_ o d.bind.to'=⟨o.s++txtB d.bind.to',o.err⟩:=λo=>Bq_ qD
   have e7:∀ o,J_ o d.bind.key=⟨o.s++txtB d.bind.key,o.err⟩:=λo=>Bq_ qD
   have e8:∀ o,J_ o d.name=⟨o.s++txtB d.name,o.err⟩:=λo=>Bq_ qD
   have e9:∀ o,J_ o d.text=⟨o.s++txtB d.text,o.err⟩:=λo=>Bq_ qD
   have :=Gw_ d.bind.want
   have :=Gz_ d.Ah_
   unfold Bd_
   rw[if_pos h]
   unfold I6_
   repeat' split
   all_goals
     simp only[e1,e2,e3,e4,e5,e6,e7,e8,e9,Af_,Gh_,Jp_,A1,Ad_,Q7_,A6]
     omega
 unfold Bd_;rw[if_neg h];simp
theorem do_e{s:D_}{d:G_}(h:(H_ s d).2.2=0):Fj_ d=0:=by
 by_cases e:Fj_ d=0;exact e;unfold H_ at h;simp only[e,decide_false,AE,cond_true] at h
theorem pack_l0:∀ (t:List G_) (x:Bs),(∀ d∈t,Fj_ d=0/\0<=d.kind)->(D5_ t x).2=0/\x.length<=(D5_ t x).1.length/\(D5_ t x).1.length<=x.length+3200*t.length
 |[],x,_=>⟨rfl,BF _,by simp[D5_]⟩
 |d::t,x,h=>by
   have h1:=h d (AG ..)
   have hl:=Y3_ h1.2
   rw[D5_.eq_2]
   simp only[h1.1,decide_true,A2,cond_false]
   have ih:=pack_l0 t (x++Bd_ d) (λy hy=>h y (AB _ hy))
   simp only[A1] at ih
   refine⟨ih.1,by omega,?_⟩
   exact sG
theorem pack_s:∀ (g:List G_) (x:Bs),(∀ d∈g,Fj_ d=0)->D5_ g x=(x++g.flatMap Bd_,0)
 |[],x,_=>by rw[D5_.eq_1];simp
 |d::t,x,h=>by
   have h1:=h d (AG ..)
   rw[D5_.eq_2]
   simp only[h1,decide_true,A2,cond_false]
   rw[pack_s t _ (λy hy=>h y (AB _ hy))]
   simp
theorem unp_l0(text:Bs):∀ (g acc:List G_) (f:Nat),g.length<f->g.length<=255->(∀ d∈g,DWf d/\Fj_ d=0)->D4_ (acc++g)=(text,0)->Fp_ text f acc (g.length:Int) ⟨g.flatMap Bd_,0⟩=(acc++g,0)
 |[],acc,f,hf,_,_,hp=>by
   obtain⟨f,rfl⟩:∃ q,f=q+1:=⟨f-1,by omega⟩
   rw[AJ] at hp ⊢
   rw[Fp_.eq_2];unfold lt
   have :¬(0:Int)<(([]:List G_).length:Int):=by simp
   have he:Vj_ ⟨([]:List G_).flatMap Bd_,0⟩=0:=by simp[Vj_]
   simp only[this,he,hp,decide_true,decide_false,BH,A2,EX,cond_false]
 |d::t,acc,f,hf,h5,h,hp=>by
   obtain⟨f,rfl⟩:∃ q,f=q+1:=⟨f-1,by omega⟩
   have⟨h1,h2⟩:=h d (AG ..)
   rw[Fp_.eq_2];unfold lt
   have hl:(0:Int)<(((d::t).length:Nat):Int):=by simp only[A3];omega
   have hw:A0 .u64 ((((d::t).length:Nat):Int)-1)=(t.length:Int):=by
     rw[DM];simp only[A3] at h5 ⊢;omega
   have hr:Gi_ ⟨(d::t).flatMap Bd_,0⟩=(d,⟨t.flatMap Bd_,0⟩):=by
     rw[B9,deedBytes_s (ddw_k h1) h2 (λp hp=>(h1.want p hp).1.1) (λp hp=>(h1.head p hp).1.1)];exact readD_fwd h1 h2
   simp only[hl,hw,hr,decide_true,EM,cond_true]
   rw[unp_l0 text t (acc++[d]) f nF (by simp only[A3] at h5;omega) (λy hy=>h y (AB _ hy)) (by rw[<- hp];simp)]
   simp
theorem unpack_pk{g:List G_}(h:∀ d∈g,DWf d/\Fj_ d=0)(hp:(D4_ g).2=0):Gp_ (D4_ g).1=(g,0):=by
 have hl:=pack_len hp;have e:D4_ g=(numB 1 g.length++g.flatMap Bd_,0):=by
   unfold D4_
   have h5:¬(255:Int)<(g.length:Int):=by omega
   simp only[h5,decide_false,cond_false]
   rw[pack_s g _ (λd hd=>(h d hd).2)]
   have :A0 .u8 (g.length:Int)=(g.length:Int):=by rw[IntKind.wrap_u8];omega
   rw[this,AI]
   simp[numB]
 unfold Gp_ lt;rw[e];have :=I7_ (r:=g.flatMap Bd_) (by omega :g.length<=255);simp only[this,AI];exact unp_l0 _ g [] _ qD hl h e
def goes:List G_->D_->Option D_
 |[],s=>some s
 |d::t,s=>if (H_ s d).2.2=0 then goes t (H_ s d).1 else none
def Wu_:List (List G_)->D_->Option D_
 |[],s=>some s
 |g::t,s=>match goes g s with
   |some x=>Wu_ t x
   |none=>none
theorem goesG_app:∀ (a b:List (List G_)) (s x:D_),Wu_ a s=some x->Wu_ (a++b) s=Wu_ b x
 |[],b,s,x,h=>by cases h;rfl
 |g::t,b,s,x,h=>by
   simp only[Wu_,D0] at h ⊢
   cases e:goes g s with
   |none=>rw[e] at h;cases h
   |some y=>rw[e] at h;simp only at h ⊢;exact goesG_app t b y x h
def pk(g:List G_):Bs:=(D4_ g).1
def GrOk(g:List G_):Prop:=(∀ d∈g,DWf d/\Fj_ d=0/\DdOk d/\DdF d/\DdG d)/\(D4_ g).2=0/\pk g≠[]/\(pk g).length<=131072
theorem rep_l1:∀ (g:List G_) (s x:D_),goes g s=some x->Do_ g s = .fin x
 |[],s,x,h=>by cases h;rfl
 |d::t,s,x,h=>by
   rw[Do_.eq_2];unfold lt
   by_cases e:(H_ s d).2.2=0
   . simp only[goes,e,if_true] at h
     simp only[e,decide_true,A2,cond_false]
     exact rep_l1 t _ x h
   . simp only[goes,if_neg e] at h;cases h
theorem rep_l0(r:Ab_×Int):∀ (gs:List (List G_)) (s x:D_),(∀ g∈gs,GrOk g)->Wu_ gs s=some x->E6_ r (gs.map pk) s=(x,0)
 |[],s,x,_,h=>by cases h;rfl
 |g::t,s,x,hg,h=>by
   have⟨h1,h2,_⟩:=hg g (AG ..)
   have hu:=unpack_pk (g:=g) (λd hd=>⟨(h1 d hd).1,(h1 d hd).2.1⟩) h2
   simp only[Wu_] at h
   cases e:goes g s with
   |none=>rw[e] at h;cases h
   |some y=>
     rw[e] at h;simp only at h
     rw[BC,E6_.eq_2];unfold lt
     have e1:Gp_ (pk g)=(g,0):=hu
     simp only[e1,decide_true,A2,cond_false,rep_l1 g s y e,lp1]
     exact rep_l0 r t y x (λq hq=>hg q (AB _ hq)) h
theorem replay_c{p:F_}{k:Int}{s x:D_}{gs:List (List G_)}(h:Rt p k s)(hg:∀ g∈gs,GrOk g)(hx:Wu_ gs s=some x):Jf_ p k (Az_ (S_ s)) (gs.map pk)=(x,0):=by
 unfold Jf_ lt;rw[rt_read h];simp only[decide_true,A2,cond_false];rw[rt_with h];exact rep_l0 _ gs s x hg hx
end Go.SW.V
