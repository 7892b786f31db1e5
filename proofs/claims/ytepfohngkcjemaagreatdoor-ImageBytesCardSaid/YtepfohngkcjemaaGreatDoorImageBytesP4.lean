/-
  A part of the proof of ImageBytes: What functions answer, printed by program out of their walks: stairwellref21.New, stairwellref21.Check,
-/
import Derived.Test.YtepfohngkcjemaaGreatDoorImageBytesP3
import Derived.Shelf.LaysM
import Derived.Shelf.Strings.Split
import Derived.Test.YtepfohngkcjemaaGreatDoorProg
set_option linter.unusedVariables false
set_option linter.unusedSimpArgs false
set_option maxRecDepth 100000
set_option maxHeartbeats 4000000
open BitVec renaming getLsbD_and->F4,getLsbD_not->F5,getLsbD_zero->EY,ofInt->AC
open Bool renaming and_eq_true->A3,and_false->G8,and_true->BS,false_and->B6,false_eq_true->CT,false_or->CY,not_eq_false'->BF,not_false->AT,not_true->A5,or_eq_false_iff->AY,or_eq_true->FY,or_false->CE,true_and->AW,true_or->EQ
open Go.IntKind renaming bits->AO,wrap->A0,wrap_u64->FB
open Go.Value renaming int->GV
open Int renaming fdiv->GC,le_of_eq->GR,le_of_lt->C9,le_refl->BM,min_def->GU,toNat_natCast->A7,toNat_of_nonneg->BD
open List renaming append_assoc->A6,append_nil->AS,cons_append->CX,countP_cons->DR,drop_append_of_le_length->BH,drop_drop->BZ,drop_eq_getElem_cons->CN,drop_eq_nil_iff->D8,drop_length->FU,drop_of_length_le->A9,drop_set_of_lt->DE,filter_cons->DS,filter_eq_self->BN,flatMap_cons->BI,flatten_cons->AQ,flatten_nil->B7,getD_eq_getElem?_getD->AB,getElem?_eq_none->EX,getElem?_set_ne->CD,length_append->A4,length_cons->A2,length_drop->D5,length_nil->AE,length_set->BC,map_append->C3,map_cons->AG,map_id->GQ,map_map->DP,map_nil->DQ,mem_cons_of_mem->AI,mem_cons_self->B8,mem_map_of_mem->BO,mem_of_getElem?->A1,mem_of_mem_drop->AP,mem_or_eq_of_mem_set->BL,nil_append->AN,nodup_append->CQ,nodup_cons->CG,replicate->AJ,set_cons_succ->FJ,set_cons_zero->FI,set_eq_of_length_le->CU,take_append_drop->AL,take_succ_eq_append_getElem->DK
open Nat renaming add_assoc->BY,add_sub_cancel->FO,le_refl->AX,lt_or_ge->EW,lt_succ_self->C2,zero_add->B9,zero_le->B5
open Option renaming getD_some->BJ,isSome_some->CI
open Go.Proofs.Tryz
namespace Go.SW.V
open Go.SW
def Zd_(base:Int)(bytes:Int):Ac_:=
 (⟨base,(max bytes 0),[],(⟨aM,aM,aM,aM,aM,aM,aM,aM,aM,aM,aM,aM,aM,aM,aM,aM⟩:A16_RiseR)⟩:Ac_)
def Q8_(q:Aa_):Int:=
 (lt1 ((bif ((decide ((C6_ q.name)=0))&&((decide (q.most<1))||(decide (64<q.most)))) then
 7
 else (C6_ q.name))) (λe_1=>
 (bif ((decide (e_1=0))&&(!decide (q.dead=[]))) then
 (C6_ q.dead)
 else e_1)))
def J6_(name:Bs):List G9_->Nat->Int
 |[],k=>(-1)
 | x::t,k=>(bif decide ((x.q.name)=name) then
 (k:Int)
 else J6_ name t (k+1))
def Dk_(s:Ac_)(name:Bs):Int:=
 J6_ name s.rows 0
def Sg_(s:Ac_)(q:Aa_):Ac_×Int:=
 lt (Q8_ q) λr=>
 (bif !decide (r=0) then
 (s,r)
 else lt (Dk_ s q.name) λr1=>
 (bif ((decide (0<=r1))&&(decide ((gt s.rows ((r1).toNat)).q=q))) then
 (s,0)
 else (bif decide (0<=r1) then
 (s,9)
 else (bif decide (8<=(s.rows.length:Int)) then
 (s,12)
 else ((⟨s.next,s.most,(s.rows++[(⟨q,[]⟩:G9_)]),s.rises⟩:Ac_),0)))))
def If_(s:Ac_)(name:Bs):List G9_->List G9_->Ac_×Int
 |[],l=>((⟨s.next,s.most,l,s.rises⟩:Ac_),0)
 | x::t,l=>(bif !decide ((x.q.name)=name) then
 If_ s name t (l++[x])
 else If_ s name t l)
def Se_(s:Ac_)(name:Bs):Ac_×Int:=
 lt (Dk_ s name) λr=>
 (bif decide (r<0) then
 (s,10)
 else If_ s name s.rows [])
def Fj_(s:Ac_)(k:Int)(l:List F_):List G9_->Nat->List G9_->Ac_
 |[],k1,out=>(⟨s.next,s.most,out,s.rises⟩:Ac_)
 | x::t,k1,out=>(bif decide ((k1:Int)=k) then
 Fj_ s k l t (k1+1) (out++[(⟨x.q,l⟩:G9_)])
 else Fj_ s k l t (k1+1) (out++[x]))
def Ex_(s:Ac_)(k:Int)(l:List F_):Ac_:=
 Fj_ s k l s.rows 0 []
def S9_(s:Ac_)(name:Bs)(m:Mail):Ac_×Int×Mail×Int:=
 lt (Dk_ s name) λr=>
 (lt1 ((bif decide (r<0) then
 10
 else 0)) (λe_1=>
 (lt1 ((bif decide (e_1=0) then
 (D6_ m)
 else e_1)) (λe_2=>
 (lt1 ((bif ((decide (e_2=0))&&(decide (s.next = 0))) then
 18
 else e_2)) (λe_3=>
 (bif !decide (e_3=0) then
 (s,0,aK,e_3)
 else (lp2 ((bif decide (((gt s.rows ((r).toNat)).q.most)<=(((gt s.rows ((r).toNat)).l).length:Int)) then
 lt (Q6_ ((gt s.rows ((r).toNat)).l)) λr1=>
 (bif !r1.2 then
 .ret (s,0,aK,12)
 else lt (Kg_ ((gt s.rows ((r).toNat)).l) r1.1.id) λr2=>
 .fin (r2.1,r1.1))
 else .fin ((gt s.rows ((r).toNat)).l,aK))) (λl x=>
 lt (Ie_ l (⟨s.next,m.Al_,m.key,m.head,m.body,m.due,m.hops⟩:Mail)) λr3=>
 lt (Ex_ s r r3.1) λr4=>
 (lt1 ((bif decide (s.most<(K0_ (⟨(A0 .u64 (s.next + 1)),r4.most,r4.rows,r4.rises⟩:Ac_))) then
 12
 else r3.2)) (λe_4=>
 (bif !decide (e_4=0) then
 (s,0,aK,e_4)
 else ((⟨(A0 .u64 (s.next + 1)),r4.most,r4.rows,r4.rises⟩:Ac_),s.next,x,0))))) (λr=>r)))))))))
def Sf_(s:Ac_)(name:Bs):Ac_×F_×Bool:=
 lt (Dk_ s name) λr=>
 (bif decide (r<0) then
 (s,aV,false)
 else lt (Px_ ((gt s.rows ((r).toNat)).l)) λr1=>
 lt (Ex_ s r r1.1) λr2=>
 (r2,r1.2.1,r1.2.2))
def Sd_(s:Ac_)(name:Bs)(id:Int):Ac_×Int:=
 lt (Dk_ s name) λr=>
 (bif decide (r<0) then
 (s,10)
 else lt (Pw_ ((gt s.rows ((r).toNat)).l) id) λr1=>
 lt (Ex_ s r r1.1) λr2=>
 (r2,r1.2))
def Gd_(s:Ac_)(name:Bs)(id:Int):Ac_×F_×Int:=
 lt (Dk_ s name) λr=>
 (bif decide (r<0) then
 (s,aV,10)
 else lt (Kg_ ((gt s.rows ((r).toNat)).l) id) λr1=>
 lt (Ex_ s r r1.1) λr2=>
 (r2,r1.2.1,r1.2.2))
def Jr_(s:Ac_)(place:Int)(m:Mail):Ac_×Int:=
 (bif ((decide (place<0))||(decide (15<place))) then
 (s,7)
 else lt (Kz_ (A16.get s.rises ((place).toNat)) m) λr=>
 (bif !decide (r.2=0) then
 (s,r.2)
 else (bif decide (s.most<(K0_ (⟨s.next,s.most,s.rows,(A16.set s.rises (r.1) ((place).toNat))⟩:Ac_))) then
 (s,12)
 else ((⟨s.next,s.most,s.rows,(A16.set s.rises (r.1) ((place).toNat))⟩:Ac_),0))))
def J7_(tick:Int):List G9_->Bs×Mail×Bool
 |[]=>([],aK,false)
 |x::t=>lt (Sc_ (x.l) tick) λr=>
 (bif r.2 then
 (x.q.name,r.1,true)
 else J7_ tick t)
def Mt_(s:Ac_)(tick:Int):Bs×Mail×Bool:=
 J7_ tick s.rows
def J9_:List G9_->Nat->Ac_->Ac_
 |[],k,x=>x
 |x1::t,k,x=>lt (Ms_ ((gt x.rows k).l)) λr=>
 lt (Ex_ x (k:Int) r) λr1=>
 J9_ t (k+1) r1
def Py_(s:Ac_):Ac_:=
 J9_ s.rows 0 s
theorem Xh_{α β:Type}[Inhabited α](p:α->Bool)(z:β)(a:α->Nat->β)(F:List α->Nat->β)(h0:∀ k,F [] k=z)(h1:∀ x t k,F (x::t) k = bif p x then a x k else F t (k+1)):∀ (l:List α) (k:Nat),F l k = bif decide (idxF p k l<0) then z else a (gt l (idxF p k l-k).toNat) (idxF p k l).toNat
 |[],k=>by rw[h0];rfl
 |x::t,k=>by
   rw[h1,idxF]
   cases e:p x with
   |true=>
     have e1:decide ((k:Int)<0)=false:=decide_eq_false qX
     rw[cond_true,if_pos rfl,e1,cond_false]
     have e2:((k:Int)-k).toNat=0:=by omega
     rw[e2,A7];rfl
   |false=>
     rw[cond_false,if_neg qZ,Xh_ p z a F h0 h1 t (k+1)]
     have hb:=idxF_b p t (k+1)
     by_cases q:idxF p (k+1) t<0
     . exact tK
     . rw[decide_eq_false q,cond_false,cond_false]
       have e3:(idxF p (k+1) t-k).toNat=(idxF p (k+1) t-((k+1:Nat):Int)).toNat+1:=by omega
       rw[e3];rfl
theorem Sx_{α:Type}[Inhabited α](p:α->Bool)(F:List α->Nat->Int)(h0:∀ k,F [] k = -1)(h1:∀ x t k,F (x::t) k = bif p x then (k:Int) else F t (k+1)):∀ (l:List α) (k:Nat),F l k=idxF p k l
 |[],k=>by rw[h0];rfl
 |x::t,k=>by
   rw[h1,idxF,Sx_ p F h0 h1 t (k+1)]
   cases p x<;>rfl
theorem idxF_0{α:Type}(p:α->Bool)(l:List α):idxF p 0 l=idxP p l:=rfl
theorem first_one{α β:Type}[Inhabited α](p:α->Bool)(z:β)(a:α->β)(F:List α->β)(h0:F []=z)(h1:∀ x t,F (x::t) = bif p x then a x else F t)(l:List α):F l = bif decide (idxP p l<0) then z else a (gt l (idxP p l).toNat):=by
 have :=Xh_ p z (λx _=>a x) (λl _=>F l) (λ_=>h0) (λx t _=>h1 x t) l 0;rw[this,idxF_0];simp
theorem clone_id(x:F_):Cm_ x=x:=rfl
theorem r18find(l:List F_)(id:Int):N5_ l id=Bc_ ⟨l⟩ id:=Sx_ (λz=>Pn_ z id) (Lm_ id) (λ_=>rfl) (λ_ _ _=>rfl) l 0
theorem r18find_b(l:List F_)(id:Int):-1<=N5_ l id/\N5_ l id<l.length:=by
 rw[r18find];exact lof_b ⟨l⟩ id
theorem r05find_b(p:H_)(n:Bs):-1<=Ku_ p n/\Ku_ p n<p.places.length:=by
 have :Ku_ p n=idxP (λx:Bn_=>decide (x.name=n)) p.places:=Sx_ _ (J4_ n) (λ_=>rfl) (λ_ _ _=>rfl) p.places 0;rw[this];exact Jj_ _ _
theorem r05grants_b(p:H_)(a b:Int):-1<=Fx_ p a b/\Fx_ p a b<p.grants.length:=by
 have :Fx_ p a b=idxP (λx:Cc_=>(decide (x.frm=a))&&(decide (x.to'=b))) p.grants:=Sx_ _ (Ib_ a b) (λ_=>rfl) (λ_ _ _=>rfl) p.grants 0;rw[this];exact Jj_ _ _
theorem To_(k:Int)(x:F_):∀ (t:List F_) (i:Nat) (out:List F_),(E7_ k x t i out).length=out.length+t.length
 |[],i,out=>by rw[E7_];simp
 |y::t,i,out=>by
   rw[E7_]
   have h1:=To_ k x t (i+1) (out++[x])
   have h2:=To_ k x t (i+1) (out++[y])
   simp only[A4,A2,AE] at h1 h2 ⊢
   cases decide ((i:Int)=k)
   . rw[cond_false,h2];omega
   . rw[cond_true,h1];omega
theorem turned_len(l:List F_){k:Int}{x:F_}:(Hw_ l k x).length=l.length:=by
 unfold Hw_;rw[To_];simp
theorem r18lend_len(l:List F_):(Px_ l).1.length=l.length:=by
 unfold Px_;have :∀ (t:List F_) (i:Nat),(I8_ l t i).1.length=l.length:=by
   intro t
   induction t with
   |nil=>intro i;rfl
   |cons y t ih=>
     intro i
     unfold I8_ lt
     let Q:List F_×F_×Bool->Prop:=λr=>r.1.length=l.length
     exact bt (P:=Q) (λ_=>turned_len l) λ_=>ih _
 exact this l 0
theorem r18back_len(l:List F_)(id:Int):(Pw_ l id).1.length=l.length:=by
 unfold Pw_ lt;let Q:List F_×Int->Prop:=λr=>r.1.length=l.length;exact bt (P:=Q) (λ_=>rfl) λ_=>bt (P:=Q) (λ_=>rfl) λ_=>turned_len l
theorem rem_len0(l:List F_)(r:Int):∀ (t:List F_) (i:Nat) (out:List F_),(E6_ l r t i out).1.length<=out.length+t.length
 |[],i,out=>by rw[E6_];simp
 |y::t,i,out=>by
   rw[E6_]
   let Q:List F_×F_×Int->Prop:=λz=>z.1.length<=out.length+(y::t).length
   refine bt (P:=Q) (λ_=>?_) λ_=>?_
   . have :=rem_len0 l r t (i+1) (out++[y])
     simp only[A4,A2,AE] at this
     show _<=out.length+(y::t).length
     exact sM
   . have :=rem_len0 l r t (i+1) out
     show _<=out.length+(y::t).length
     exact sM
theorem r18rem_len(l:List F_)(id:Int):(Kg_ l id).1.length<=l.length:=by
 unfold Kg_ lt;let Q:List F_×F_×Int->Prop:=λr=>r.1.length<=l.length;exact bt (P:=Q) (λ_=>AX _) λ_=>have :=rem_len0 l (N5_ l id) l 0 [];sY
theorem Zb_(l:List F_):(Ms_ l).length=l.length:=by
 unfold Ms_;have :∀ (t out:List F_),(G2_ t out).length=out.length+t.length:=by
   intro t
   induction t with
   |nil=>intro out;rw[G2_];simp
   |cons y t ih=>intro out;rw[G2_,ih];simp;omega
 rw[this];simp
theorem r18add_len{l:List F_}{m:Mail}(h:l.length<=64):(Ie_ l m).1.length<=64:=by
 unfold Ie_ Vt_ lt;have :∀ (t:List F_) (e:Int) (x:F_),(Gy_ l x t e).1.length<=64:=by
   intro t
   induction t with
   |nil=>
     intro e x
     unfold Gy_ lt1
     let Q:List F_×Int->Prop:=λr=>r.1.length<=64
     refine bt (P:=Q) (λ_=>h) λc=>?_
     show (l++[x]).length<=64
     rw[A4,List.length_singleton]
     have hc:(bif ((decide (e=0))&&(decide (64<=(l.length:Int)))) then (12:Int) else e)=0:=by simpa using c
     by_cases q:64<=(l.length:Int)
     . exfalso
       rw[decide_eq_true q] at hc
       by_cases q2:e=0
       . rw[decide_eq_true q2] at hc;cases hc
       . rw[decide_eq_false q2] at hc;exact q2 hc
     . omega
   |cons y t ih=>
     intro e x
     unfold Gy_
     let Q:List F_×Int->Prop:=λr=>r.1.length<=64
     exact bt (P:=Q) (λ_=>ih _ _) λ_=>ih _ _
 exact this _ _ _
theorem told_eq2(l:Ar_)(k:Int):C8_ l k = bif decide (k<0) then (⟨0,[],[],[],[],0,0⟩,false) else ((gt l.items k.toNat).P_,true):=rfl
theorem r18first(l:List F_):Q6_ l=Au_ ⟨l⟩:=by
 have h:=first_one (λx:F_=>!x.Nr_) (aK,false) (λx=>(x.P_,true)) Kf_ Y (λ_ _=>rfl) l;unfold Q6_ Au_ lt;dsimp only;rw[h,told_eq2];have e:B0_ ⟨l⟩=idxP (λx:F_=>!x.Nr_) l:=by
   unfold B0_
   congr 1
   funext x
   simp[Hv_,Ug_]
 rw[e]
theorem r18late{l:List F_}{t:Int}(h:∀ x∈l,0<=x.P_.due):Sc_ l t=Eb_ ⟨l⟩ t:=by
 have h2:=first_one (λx:F_=>(((!(x.Nr_))&&(decide (0<(x.P_.due))))&&(decide ((x.P_.due)<=t)))) (aK,false) (λx=>(x.P_,true)) (Ln_ t) Y (λ_ _=>rfl) l;unfold Sc_ Eb_ lt;dsimp only;rw[h2,told_eq2];have e:E3_ ⟨l⟩ t=idxP (λx:F_=>(((!(x.Nr_))&&(decide (0<(x.P_.due))))&&(decide ((x.P_.due)<=t)))) l:=by
   unfold E3_ idxP
   have :∀ (l:List F_) (k:Nat),(∀ x∈l,0<=x.P_.due)->idxF (λz_4:F_=>Ge_ z_4 t) k l=idxF (λx:F_=>(((!(x.Nr_))&&(decide (0<(x.P_.due))))&&(decide ((x.P_.due)<=t)))) k l:=by
     intro l
     induction l with
     |nil=>intro k _;rfl
     |cons x r ih=>
       intro k hx
       rw[idxF,idxF,ih (k+1) (λy hy=>hx y pQ)]
       have h0:=hx x pC
       have e1:Ge_ x t=(((!(x.Nr_))&&(decide (0<(x.P_.due))))&&(decide ((x.P_.due)<=t))):=by
         unfold Ge_ Rs_
         have :(!decide (x.P_.due=0)) = decide (0<x.P_.due):=by
           by_cases q:x.P_.due=0
           . rw[decide_eq_true q,decide_eq_false qX];rfl
           . rw[decide_eq_false q,decide_eq_true qX];rfl
         rw[this,Bool.and_assoc]
       rw[e1]
   exact this l 0 h
 rw[e]
theorem turned0(n:Nat)(x:F_):∀ (t:List F_) (k:Nat) (out:List F_),E7_ (n:Int) x t k out=out++(if k<=n then t.set (n-k) x else t)
 |[],k,out=>by rw[E7_];simp
 |y::t,k,out=>by
   rw[E7_,turned0 n x t (k+1),turned0 n x t (k+1)]
   by_cases q:(k:Int)=n
   . rw[decide_eq_true q,cond_true,if_neg qX,if_pos qX]
     have :n-k=0:=by omega
     rw[this];simp
   . rw[decide_eq_false q,cond_false]
     by_cases q2:k<=n
     . exact tX
     . exact tW
theorem turned_eq(l:List F_)(n:Nat)(x:F_):Hw_ l (n:Int) x=l.set n x:=by
 unfold Hw_;rw[turned0];simp
theorem r18lend(l:List F_):Px_ l=((Di_ ⟨l⟩).1.items,(Di_ ⟨l⟩).2):=by
 have h:=Xh_ (λx:F_=>!x.Nr_) ((l,((⟨⟨0,[],[],[],[],0,0⟩,false,false⟩:F_),false)):List F_×F_×Bool) (λx k=>(Hw_ l (k:Int) ⟨x.P_,true,x.again⟩,(⟨x.P_,true,x.again⟩:F_),true)) (I8_ l) (λ_=>rfl) (λ_ _ _=>rfl) l 0;unfold Px_;rw[h,idxF_0];have e:B0_ ⟨l⟩=idxP (λx:F_=>!x.Nr_) l:=by
   unfold B0_
   congr 1
   funext x
   simp[Hv_,Ug_]
 have hb:=Jj_ (λx:F_=>!x.Nr_) l;unfold Di_ lt;dsimp only;rw[e];by_cases q:idxP (λx:F_=>!x.Nr_) l<0;exact tK;rw[decide_eq_false q];dsimp only[cond_false];obtain⟨n,hn⟩:∃ n:Nat,idxP (λx:F_=>!x.Nr_) l=n:=⟨_,(BD qX).symm⟩;rw[hn] at hb ⊢;have e2:((n:Int)-(0:Nat)).toNat=n:=by omega
 rw[e2,A7,turned_eq,clone_id,gt_set qX]
theorem r18back(l:List F_)(id:Int):Pw_ l id=((Ea_ ⟨l⟩ id).1.items,(Ea_ ⟨l⟩ id).2):=by
 unfold Pw_ Ea_ lt;dsimp only;rw[r18find];have hb:=lof_b ⟨l⟩ id;by_cases q:Bc_ ⟨l⟩ id<0;exact tK
 . rw[decide_eq_false q]
   obtain⟨n,hn⟩:∃ n:Nat,Bc_ ⟨l⟩ id=n:=⟨_,(BD qX).symm⟩
   rw[hn] at hb ⊢
   dsimp only[cond_false]
   rw[A7]
   cases (gt l n).Nr_ with
   |false=>rfl
   |true=>
     rw[turned_eq,gt_set (by have :=hb.2;simp at this;omega)]
     simp
theorem remove0(l:List F_)(n:Nat):∀ (t:List F_) (k:Nat) (out:List F_),E6_ l (n:Int) t k out=(out++(if k<=n then t.take (n-k)++t.drop (n-k+1) else t),gt l n,0)
 |[],k,out=>by rw[E6_];simp
 |y::t,k,out=>by
   rw[E6_,remove0 l n t (k+1),remove0 l n t (k+1)]
   by_cases q:(k:Int)=n
   . rw[decide_eq_true q,A5,cond_false,if_neg qX,if_pos qX]
     have :n-k=0:=by omega
     rw[this];simp
   . rw[decide_eq_false q,AT,cond_true]
     by_cases q2:k<=n
     . exact tX
     . exact tW
theorem r18remove(l:List F_)(id:Int):Kg_ l id=((Ap_ ⟨l⟩ id).1.items,(Ap_ ⟨l⟩ id).2):=by
 unfold Kg_ Ap_ lt;dsimp only;rw[r18find];have hb:=lof_b ⟨l⟩ id;by_cases q:Bc_ ⟨l⟩ id<0;exact tK;rw[decide_eq_false q];obtain⟨n,hn⟩:∃ n:Nat,Bc_ ⟨l⟩ id=n:=⟨_,(BD qX).symm⟩;rw[hn] at hb ⊢;dsimp only[cond_false];have e1:((n:Int)+1).toNat=n+1:=by omega
 rw[remove0,clone_id,A7,e1];simp
theorem wake0(out:List F_):∀ (l:List F_),G2_ l out=out++l.map λx=>(⟨x.P_,false,x.again||x.Nr_⟩:F_)
 |[]=>by rw[G2_];simp
 |x::t=>by rw[G2_,wake0];simp
theorem lwake0:∀ (t:List F_) (k:Nat) (x:Ar_),x.items.drop k=t->(Ch_ t k x).items=x.items.take k++t.map λx=>(⟨x.P_,false,x.again||x.Nr_⟩:F_)
 |[],k,x,h=>by
   rw[Ch_]
   have :x.items.length<=k:=List.drop_eq_nil_iff.1 h
   rw[List.take_of_length_le this];simp
 |y::t,k,x,h=>by
   have hk:k<x.items.length:=by
     rcases EW k x.items.length with q|q
     . exact q
     . rw[List.drop_eq_nil_iff.2 q] at h;cases h
   have hd:=CN hk
   rw[hd] at h
   have⟨h1,h2⟩:=List.cons.inj h
   have hg:gt x.items k=y:=by simp[gt,hk,h1]
   rw[Ch_]
   cases e:y.Nr_ with
   |true=>
     dsimp only[cond_true]
     rw[gt_set hk,hg,List.set_set]
     have :=lwake0 t (k+1) ⟨x.items.set k ⟨y.P_,false,true⟩⟩ (by
       show (x.items.set k _).drop (k+1)=t
       rw[DE qX];exact h2)
     rw[this]
     show (x.items.set k _).take (k+1)++_=_
     have e3:(x.items.set k (⟨y.P_,false,true⟩:F_)).take (k+1)=x.items.take k++[⟨y.P_,false,true⟩]:=by
       rw[DK (by simpa using hk),List.take_set_of_le (AX k)]
       simp
     rw[e3,AG,e]
     simp
   |false=>
     dsimp only[cond_false]
     rw[lwake0 t (k+1) x h2,DK hk,h1,AG,e]
     simp only[A6,CX,AN,CE]
     congr 2
     cases y;simp at e;simp[e]
theorem r18wake(l:List F_):Ms_ l=(Ec_ ⟨l⟩).items:=by
 unfold Ms_ Ec_;rw[wake0,lwake0 l 0 ⟨l⟩ pC];simp
theorem put0(l:List F_)(x:F_):∀ (t:List F_) (e:Int),Gy_ l x t e=Gy_ l x [] (bif decide (e=0)&&t.any (λy=>decide (x.P_.id<=y.P_.id)) then 13 else e)
 |[],e=>by simp
 |y::t,e=>by
   conv=>lhs;unfold Gy_
   by_cases q:e=0
   . subst q
     by_cases q2:x.P_.id<=y.P_.id
     . rw[decide_eq_true q2,decide_eq_true rfl,BS,cond_true,put0 l x t 13]
       simp[q2]
     . rw[decide_eq_false q2,G8,cond_false,put0 l x t 0]
       simp[q2]
   . rw[decide_eq_false q,B6,B6,cond_false,put0 l x t e,decide_eq_false q]
     simp
theorem r18put{l:List F_}{x:F_}(h:P7_ l):Vt_ l x=((Dq_ ⟨l⟩ x).1.items,(Dq_ ⟨l⟩ x).2):=by
 unfold Vt_;rw[put0];unfold Gy_ lt1 Dq_ lt Eo_;dsimp only;by_cases q:D6_ x.P_=0
 . have hany:l.any (λy=>decide (x.P_.id<=y.P_.id))=((decide (0<(l.length:Int)))&&(decide (x.P_.id<=((gt l ((((l.length:Int)-1)).toNat)).P_.id)))):=by
     by_cases q2:0<l.length
     . have hl:l.length-1<l.length:=by omega
       have e1:((l.length:Int)-1).toNat=l.length-1:=by omega
       rw[e1,decide_eq_true (show (0:Int)<l.length by omega),AW]
       by_cases q3:x.P_.id<=(gt l (l.length-1)).P_.id
       . rw[decide_eq_true q3,List.any_eq_true]
         exact⟨_,Gw_ hl,by simpa using q3⟩
       . rw[decide_eq_false q3,List.any_eq_false]
         intro y hy
         have⟨i,hi⟩:=List.getElem?_of_mem hy
         have hil:i<l.length:=by
           have⟨a,_⟩:=List.getElem?_eq_some_iff.1 hi;exact a
         have hle:y.P_.id<=(gt l (l.length-1)).P_.id:=by
           by_cases q4:i=l.length-1
           . subst q4
             have :=getG (xs:=l) (k:=l.length-1) hl
             rw[hi] at this
             have :=Option.some.inj this
             rw[this];exact BM _
           . have :=U0_ h hi (getG hl) qX;omega
         simp only[decide_eq_true_eq];omega
     . have :l=[]:=by cases l with|nil=>rfl|cons a b=>simp at q2
       subst this;rfl
   rw[hany]
   rw[decide_eq_true q,q,clone_id]
   simp only[decide_true,AW,A5,cond_false]
   cases ((decide (0<(l.length:Int)))&&(decide (x.P_.id<=((gt l ((((l.length:Int)-1)).toNat)).P_.id)))) with
   |true=>simp
   |false=>
     simp only[cond_false,decide_true,AW]
     cases decide (64<=(l.length:Int)) with
     |true=>simp
     |false=>simp
 rw[decide_eq_false q];simp[q]
theorem r18add{l:List F_}{m:Mail}(h:P7_ l):Ie_ l m=((Ax_ ⟨l⟩ m).1.items,(Ax_ ⟨l⟩ m).2):=by
 unfold Ie_ Ax_ lt;dsimp only;rw[r18put h]
theorem r20put{x:Az_}{m:Mail}(h:x.kept.length<=16):Kz_ x m=Bw_ x m:=by
 unfold Kz_ Bw_ lt lt1;dsimp only;by_cases q:D6_ m=0;rw[q];simp only[decide_true,AW,A5,cond_false];by_cases q2:x.total=18446744073709551615;rw[decide_eq_true q2];simp;rw[decide_eq_false q2];simp only[cond_false,decide_true,A5];have e1:([x.kept,[K_ m]].flatten)=x.kept++[m]:=by simp[K_]
 rw[e1];by_cases q3:(16:Int)<((x.kept++[m]).length:Int);rw[decide_eq_true q3,cond_true];have :(max 0 (((x.kept++[m]).length:Int)-16)).toNat=1:=by simp at q3 ⊢;omega
 rw[this];rw[decide_eq_false q3,cond_false];have :(max 0 (((x.kept++[m]).length:Int)-16)).toNat=0:=by simp at q3 ⊢;omega
 rw[this];simp;rw[decide_eq_false q];simp[q]
theorem r19add{n:Bu_}{x:D2_}(h:n.kept.length<=32):Q7_ n x=Cn_ n x:=by
 unfold Q7_ Cn_;have e1:([n.kept,[x]].flatten)=n.kept++[x]:=by simp
 rw[e1]
 cases decide (64<(x.text.length:Int)) with
 |true=>rfl
 |false=>
   cases decide (n.total=18446744073709551615) with
   |true=>rfl
   |false=>
     simp only[cond_false]
     by_cases q3:(32:Int)<((n.kept++[x]).length:Int)
     . rw[decide_eq_true q3,cond_true]
       have :(max 0 (((n.kept++[x]).length:Int)-32)).toNat=1:=by simp at q3 ⊢;omega
       rw[this]
     . rw[decide_eq_false q3,cond_false]
       have :(max 0 (((n.kept++[x]).length:Int)-32)).toNat=0:=by simp at q3 ⊢;omega
       rw[this];simp
theorem queues_eq0:∀ (l:List Fe_) (out:List Aa_),D1_ l out=out++l.map (·.q)
 |[],out=>by simp[D1_]
 |x::t,out=>by unfold D1_;rw[queues_eq0 t];simp
theorem queues_eq(s:G_):Bk_ s=s.rows.map (·.q):=by unfold Bk_;rw[queues_eq0];rfl
theorem V7_:∀ (l:List Bn_),I4_ l=true->∀ y∈l,y.name.length<=40
 |[],_,y,h=>by cases h
 |x::t,h,y,hy=>by
   unfold I4_ at h
   cases e:decide (40<(x.name.length:Int)) with
   |true=>rw[e] at h;cases h
   |false=>
     rw[e] at h
     rcases List.mem_cons.1 hy with q|q
     . rw[q];have :=of_decide_eq_false e;omega
     . exact V7_ t h y q
theorem may_names{p:H_}(h:Oe_ p=true):∀ y∈p.places,y.name.length<=300:=by
 unfold Oe_ at h;rw[A3] at h;have h1:=h.1;unfold Ot_ at h1
 cases e:(decide (20<(p.places.length:Int)) || decide (40<(p.slots.length:Int)) || decide (10<(p.grants.length:Int))) with
 |true=>rw[e] at h1;cases h1
 |false=>
   rw[e] at h1
   intro y hy
   have :=V7_ _ h1 y hy
   omega
theorem l05_may2{p:H_}(h:Oe_ p=true):PoOk p/\0<p.places.length/\p.places.length<=16/\0<p.slots.length/\p.slots.length<=32/\p.grants.length<=8/\∀ y∈p.places,y.name.length<=300:=by
 have⟨a,b,c,d,e,f⟩:=l05_may h;exact⟨a,b,c,d,e,f,may_names h⟩
def Wm(m:Mail):Prop:=∀ p∈m.head,p.wf
def LW(l:List F_):Prop:=∀ x∈l,Wm x.P_
def KW(k:G_):Prop:=(∀ r∈k.rows,LW r.l.items)/\∀ i,i<16->∀ m∈(k.rises.get i).kept,Wm m
theorem msize_eq{m:Mail}(h:Wm m):Kw_ m=Ca_ m:=by
 unfold Kw_;have e2:Ca_ m=((Br_ m).length:Int):=by simp only[Ca_]
 rw[e2];by_cases e:D6_ m=0;rw[decide_eq_true e,M9_ e λp hp=>(h p hp).1.1];rfl;rw[decide_eq_false e];unfold Br_;rw[if_neg e];rfl
theorem lsz_eq0:∀ (l:List F_) (n:Int),LW l->G1_ l n=Cq_ l n
 |[],_,_=>rfl
 |x::t,n,h=>by
   unfold G1_ Cq_ lt
   rw[msize_eq (h x pC)]
   exact lsz_eq0 t _ λy hy=>h y pQ
theorem usz_eq0:∀ (l:List Mail) (n:Int),(∀ m∈l,Wm m)->G4_ l n=Dw_ l n
 |[],_,_=>rfl
 |x::t,n,h=>by
   unfold G4_ Dw_ lt
   rw[msize_eq (h x pC)]
   exact usz_eq0 t _ λy hy=>h y pQ
def NtF(n:Bu_):Prop:=(0<=n.total/\n.total<=18446744073709551615)/\(n.kept.length:Int)=min n.total 32/\∀ x∈n.kept,(0<=x.tick/\x.tick<=18446744073709551615)/\(0<=x.kind/\x.kind<=255)/\x.text.length<=64
theorem nread_fwd0(r1:Int×In)(r:Bs)(h32:r1.1<=32):∀ (t:List D2_) (f:Nat) (k total:Int) (kept:List D2_),k+t.length=r1.1->0<=k->t.length<f->(∀ x∈t,(0<=x.tick/\x.tick<=18446744073709551615)/\(0<=x.kind/\x.kind<=255)/\x.text.length<=64)->E5_ r1 f k total kept ⟨t.flatMap So_++r,0⟩=(⟨total,kept++t⟩,⟨r,0⟩)
 |_,0,_,_,_,_,_,h,_=>by omega
 |[],f+1,k,total,kept,hk,h0,hf,_=>by
   rw[E5_]
   exact sN
 |x::t,f+1,k,total,kept,hk,h0,hf,hx=>by
   have⟨h1,h2,h3⟩:=hx x pC
   simp only[A2] at hk hf
   rw[E5_]
   have e:decide (k<r1.1)=true:=decide_eq_true qX
   have e1:Ah_ ⟨(x::t).flatMap So_++r,0⟩ 8=(x.tick,⟨numB 1 x.kind.toNat++(txtB x.text++(t.flatMap So_++r)),0⟩):=by
     rw[BI,So_]
     exact sJ
   have e2:Ah_ ⟨numB 1 x.kind.toNat++(txtB x.text++(t.flatMap So_++r)),0⟩ 1=(x.kind,⟨txtB x.text++(t.flatMap So_++r),0⟩):=My_ h2.1 qX
   have e3:Ag_ ⟨txtB x.text++(t.flatMap So_++r),0⟩ 64=(x.text,⟨t.flatMap So_++r,0⟩):=Ro_ qX qX
   rw[e]
   simp only[decide_true,BS,cond_true]
   rw[lt,e1,lt,e2,lt,e3]
   rw[nread_fwd0 r1 r h32 t f _ total (kept++[(⟨x.tick,x.kind,x.text⟩:D2_)]) oJ oJ qX (λy hy=>hx y pQ)]
   simp
theorem nread_fwd{n:Bu_}(h:NtF n)(r:Bs):Ed_ ⟨Mj_ n++r,0⟩=(n,⟨r,0⟩):=by
 have⟨h1,h2,h3⟩:=h;unfold Ed_;have e1:Ah_ ⟨Mj_ n++r,0⟩ 8=(n.total,⟨numB 1 n.kept.length++(n.kept.flatMap So_++r),0⟩):=by
   rw[Mj_]
   exact sJ
 have e2:Ah_ ⟨numB 1 n.kept.length++(n.kept.flatMap So_++r),0⟩ 1=((n.kept.length:Int),⟨n.kept.flatMap So_++r,0⟩):=Jn_ qX;rw[lt,e1,lt,e2,lt1];dsimp only;have d1:decide ((32:Int)<(n.kept.length:Int))=false:=decide_eq_false qX;have d2:decide ((n.kept.length:Int)=min n.total 32)=true:=decide_eq_true h2;rw[d1,d2];simp only[decide_true,A5,cond_false];rw[nread_fwd0 _ r qX n.kept _ 0 n.total [] qX qX qX h3];simp
def MlF(m:Mail):Prop:=m.wf/\(∀ p∈m.head,p.wf)/\D6_ m=0
def RiF(x:Az_):Prop:=(0<=x.total/\x.total<=18446744073709551615)/\(x.kept.length:Int)=min x.total 16/\∀ m∈x.kept,MlF m
theorem rb_eq0:∀ (t:List Mail) (o:Out),Dg_ t o=o.s++t.flatMap Br_
 |[],o=>by simp[Dg_]
 |y::t,o=>by
   rw[Dg_,rb_eq0 t]
   simp[A5_]
theorem rb_eq(x:Az_):B3_ x=numB 8 x.total.toNat++(numB 1 x.kept.length++x.kept.flatMap Br_):=by
 unfold B3_;rw[rb_eq0,Hb_,Mg_];simp
theorem mail_fwd{m:Mail}{r:Bs}(h:MlF m):Em_ ⟨Br_ m++r,0⟩=(m,⟨r,0⟩):=by
 rw[show Br_ m=Qg_ m from M9_ h.2.2 (λp hp=>(h.2.1 p hp).1.1)];exact mailRead_fwd h.1 h.2.1 h.2.2
theorem rread_fwd0(r1:Int×In)(r:Bs)(h32:r1.1<=16):∀ (t:List Mail) (f:Nat) (k total:Int) (kept:List Mail),k+t.length=r1.1->0<=k->t.length<f->(∀ m∈t,MlF m)->Hk_ r1 f k total kept ⟨t.flatMap Br_++r,0⟩=(⟨total,kept++t⟩,⟨r,0⟩)
 |_,0,_,_,_,_,_,h,_=>by omega
 |[],f+1,k,total,kept,hk,h0,hf,_=>by
   rw[Hk_]
   exact sN
 |x::t,f+1,k,total,kept,hk,h0,hf,hx=>by
   simp only[A2] at hk hf
   rw[Hk_]
   have e:decide (k<r1.1)=true:=decide_eq_true qX
   have e1:Em_ ⟨(x::t).flatMap Br_++r,0⟩=(x,⟨t.flatMap Br_++r,0⟩):=by
     rw[BI,A6]
     exact mail_fwd (hx x pC)
   rw[e]
   simp only[decide_true,BS,cond_true]
   rw[lt,e1]
   rw[rread_fwd0 r1 r h32 t f _ total (kept++[x]) oJ oJ qX (λy hy=>hx y pQ)]
   simp
theorem rread_fwd{x:Az_}(h:RiF x)(r:Bs):Js_ ⟨B3_ x++r,0⟩=(x,⟨r,0⟩):=by
 have⟨h1,h2,h3⟩:=h;unfold Js_;have e1:Ah_ ⟨B3_ x++r,0⟩ 8=(x.total,⟨numB 1 x.kept.length++(x.kept.flatMap Br_++r),0⟩):=by
   rw[rb_eq]
   exact sJ
 have e2:Ah_ ⟨numB 1 x.kept.length++(x.kept.flatMap Br_++r),0⟩ 1=((x.kept.length:Int),⟨x.kept.flatMap Br_++r,0⟩):=Jn_ qX;rw[lt,e1,lt,e2,lt1];dsimp only;have d1:decide ((16:Int)<(x.kept.length:Int))=false:=decide_eq_false qX;have d2:decide ((x.kept.length:Int)=min x.total 16)=true:=decide_eq_true h2;rw[d1,d2];simp only[decide_true,A5,cond_false];rw[rread_fwd0 _ r qX x.kept _ 0 x.total [] qX qX qX h3];simp
theorem ntf_nil:NtF ⟨0,[]⟩:=⟨by simp,by decide,λ_ h=>by cases h⟩
theorem nadd_f{n:Bu_}{x:D2_}(ht:U64 x.tick)(hk:0<=x.kind/\x.kind<=255)(h:NtF n):NtF (Cn_ n x).1:=by
 have⟨⟨h1,h2⟩,h3,h4⟩:=h;unfold Cn_;let Q:Bu_×Int->Prop:=λr=>NtF r.1;refine bt (P:=Q) (λ_=>⟨⟨h1,h2⟩,h3,h4⟩) λe1=>bt (P:=Q) (λ_=>⟨⟨h1,h2⟩,h3,h4⟩) λe2=>?_;simp only[decide_eq_false_iff_not] at e1 e2;have hw:A0 .u64 (n.total+1)=n.total+1:=Cp_ qX qX;have hl:([n.kept,[x]].flatten).length=n.kept.length+1:=by simp
 refine⟨⟨?_,?_⟩,?_,λy hy=>?_⟩;grind;grind;grind
 . have hy:y∈([n.kept,[x]].flatten).drop ((max 0 ((([n.kept,[x]].flatten).length:Int)-32))).toNat:=hy
   have hy:=AP hy
   simp only[AQ,B7,AS,List.mem_append,List.mem_singleton] at hy
   rcases hy with q|q
   exact h4 y q
   subst q
   exact⟨ht,hk,by omega⟩
theorem rif_nil:RiF ⟨0,[]⟩:=⟨by simp,by decide,λ_ h=>by cases h⟩
theorem rput_f{x:Az_}{m:Mail}(hm:D6_ m=0->MlF m)(h:RiF x):RiF (Bw_ x m).1:=by
 have⟨⟨h1,h2⟩,h3,h4⟩:=h;unfold Bw_ lt;let Q:Az_×Int->Prop:=λr=>RiF r.1;refine bt (P:=Q) (λ_=>⟨⟨h1,h2⟩,h3,h4⟩) λe1=>bt (P:=Q) (λ_=>⟨⟨h1,h2⟩,h3,h4⟩) λe2=>?_;simp only[BF,decide_eq_true_eq] at e1;simp only[decide_eq_false_iff_not] at e2;have hw:A0 .u64 (x.total+1)=x.total+1:=Cp_ qX qX;have hc:K_ m=m:=rfl;have hl:([x.kept,[K_ m]].flatten).length=x.kept.length+1:=by simp
 refine⟨⟨?_,?_⟩,?_,λy hy=>?_⟩;grind;grind;grind;grind
def Os_(x:F_):Bs:=numB 1 (Dj_ x).toNat++Br_ x.P_
def rowB(r:Fe_):Bs:=txtB r.q.name++(numB 8 r.q.most.toNat++(numB 8 r.q.life.toNat++(txtB r.q.dead++(numB 1 r.l.items.length++r.l.items.flatMap Os_))))
def upB(a:A16_RiseR):Nat->Bs
 |0=>[]
 |n+1=>(if 0<(A16.get a (15-n)).total then numB 1 (15-n)++B3_ (A16.get a (15-n)) else [])++upB a n
def upN(a:A16_RiseR):Nat->Nat
 |0=>0
 |n+1=>(if 0<(A16.get a (15-n)).total then 1 else 0)+upN a n
theorem upN_le(a:A16_RiseR):∀ n,upN a n<=n
 |0=>AX 0
 |n+1=>by
   have :=upN_le a n
   rw[upN]
   split<;>omega
theorem all_id0:∀ (t out:List F_),Es_ t out=out++t
 |[],out=>by simp[Es_]
 |x::t,out=>by
   rw[Es_,lt,all_id0 t]
   simp[Cm_,lt,K_]
theorem all_id(l:Ar_):E4_ l=l.items:=by
 unfold E4_;rw[all_id0];rfl
theorem ke1:∀ (t:List F_) (o:Out),B8_ t o=⟨o.s++t.flatMap Os_,o.err⟩
 |[],o=>by simp[B8_]
 |y::t,o=>by
   rw[B8_,ke1 t,Hb_]
   simp[A5_,Os_]
theorem ke2(s:G_)(x:Out):∀ (n f:Nat) (many:Nat) (o:Out),n<=16->n<f->many+n<=16->C9_ s x f many (16-n) o=x.s++(numB 1 (many+upN s.rises n)++(o.s++upB s.rises n))
 |_,0,_,_,_,h,_=>by omega
 |0,f+1,many,o,_,_,_=>by
   rw[C9_]
   have e:decide (((16-0:Nat):Int)<16)=false:=by decide
   rw[e,cond_false,Hb_]
   simp[A5_,upN,upB]
 |n+1,f+1,many,o,h,hf,hm=>by
   rw[C9_]
   have e:decide (((16-(n+1):Nat):Int)<16)=true:=decide_eq_true qX
   have hv:16-(n+1)=15-n:=by omega
   have hv2:16-(n+1)+1=16-n:=by omega
   rw[e,cond_true,lt,hv2,hv]
   have ht:K4_ (A16.get s.rises (15-n))=(A16.get s.rises (15-n)).total:=rfl
   rw[ht]
   by_cases q:0<(A16.get s.rises (15-n)).total
   . rw[decide_eq_true q,cond_true]
     have hw:A0 .u64 ((many:Int)+1)=((many+1:Nat):Int):=by rw[Cp_ qX qX];omega
     rw[hw,ke2 s x n f (many+1) _ qX qX qX,Hb_,upN,upB,if_pos q,if_pos q]
     simp only[A5_,A6,A7]
     rw[BY]
   . rw[decide_eq_false q,cond_false,ke2 s x n f many _ qX qX qX,upN,upB,if_neg q,if_neg q]
     simp
theorem ke0(s:G_):∀ (t:List Fe_) (o:Out),(∀ r∈t,LnOk r.l/\Bm_ r.q=0)->Ck_ s t o=o.s++(t.flatMap rowB++(numB 1 (upN s.rises 16)++upB s.rises 16))
 |[],o,_=>by
   rw[Ck_]
   have :=ke2 s o 16 17 0 aE qX qX qX
   exact sY
 |r::t,o,h=>by
   have⟨hl,hq⟩:=h r pC
   have⟨q1,q2,_,_⟩:=Pu_ hq
   have h64:=hl.1
   have hw:A0 .u64 (Ej_ r.l)=(r.l.items.length:Int):=Cp_ (show (0:Int)<=(r.l.items.length:Int) by omega) (show (r.l.items.length:Int)<=_ by omega)
   rw[Ck_,lt1,lt,all_id,ke1,hw,Hb_,Cz_ (s:=r.q.dead) qX,Mg_,Mg_,Cz_ (s:=r.q.name) qX]
   rw[ke0 s t _ (λz hz=>h z pS)]
   simp[rowB,A6]
theorem ke{s:G_}(hs:StkOk s)(hq:RoB s):Y_ s=numB 8 s.next.toNat++(numB 1 s.rows.length++(s.rows.flatMap rowB++(numB 1 (upN s.rises 16)++upB s.rises 16))):=by
 unfold Y_;rw[ke0 s _ _ (λr hr=>⟨hs.1.2.1 r hr,hq r hr⟩),Hb_,Mg_];simp
theorem lput_fwd{l:Ar_}{x:F_}(hm:D6_ x.P_=0)(hl:l.items.length<64)(hr:∀ y∈l.items,y.P_.id<x.P_.id):Dq_ l x=(⟨l.items++[x]⟩,0):=by
 have hc:Eo_ l x.P_=0:=by
   unfold Eo_
   have e1:decide (D6_ x.P_=0)=true:=decide_eq_true hm
   rw[e1]
   simp only[A5,cond_false]
   have e2:((decide (0<(l.items.length:Int)))&&(decide (x.P_.id<=((gt l.items ((((l.items.length:Int)-1)).toNat)).P_.id))))=false:=by
     rw[Bool.and_eq_false_iff,decide_eq_false_iff_not,decide_eq_false_iff_not]
     by_cases q:0<(l.items.length:Int)
     . right
       have :=hr _ (Gw_ (xs:=l.items) (k:=((l.items.length:Int)-1).toNat) qX)
       omega
     . exact .inl q
   grind
 unfold Dq_;rw[lt,hc];simp[Cm_,lt,K_]
theorem lof_fwd0:∀ (t:List F_) (l:Ar_),P7_ (l.items++t)->(l.items++t).length<=64->(∀ x∈t,D6_ x.P_=0)->Ir_ t l=(⟨l.items++t⟩,0)
 |[],l,_,_,_=>by rw[Ir_];simp
 |x::t,l,hr,hl,hm=>by
   have h1:∀ y∈l.items,y.P_.id<x.P_.id:=λy hy=>by
     have :=hr
     unfold P7_ at this
     rw[C3,AG,List.pairwise_append] at this
     exact this.2.2 y.P_.id (List.mem_map.2 ⟨y,hy,rfl⟩) x.P_.id pC
   simp only[A4,A2] at hl
   rw[Ir_,lt,lput_fwd (hm x pC) qX h1]
   simp only[decide_true,A5,cond_false]
   rw[lof_fwd0 t ⟨l.items++[x]⟩ (by simpa using hr) nV (λy hy=>hm y pQ)]
   simp
theorem lof_fwd{l:Ar_}(h:LnOk l)(hm:∀ x∈l.items,D6_ x.P_=0):Vp_ l.items=(l,0):=by
 unfold Vp_;rw[lof_fwd0 l.items ⟨[]⟩ (by simpa using h.2.2) (by simpa using h.1) hm];rfl
theorem flag_r(x:F_):0<=Dj_ x/\Dj_ x<=3:=by
 have h3:A0 .u64 (1+2)=3:=by decide
 have h2:A0 .u64 (0+2)=2:=by decide
 unfold Dj_;grind
theorem flag_back(x:F_):(⟨x.P_,decide ((Dj_ x%2)=1),decide ((Dj_ x/2)=1)⟩:F_)=x:=by
 have h3:A0 .u64 (1+2)=3:=by decide
 have h2:A0 .u64 (0+2)=2:=by decide
 have⟨m,a,b⟩:=x;unfold Dj_;rw[h2,h3]
 cases a<;>cases b<;>rfl
def ItF(next :Int)(x:F_):Prop:=MlF x.P_/\(next = 0\/x.P_.id < next)
theorem items_fwd(s:G_)(r:Bs×In)(r1 r2:Int×In)(r3:Bs×In)(rest:Bs):∀ (t:List F_) (f:Nat) (acc:List F_),t.length<f->t.length<=255->(∀ x∈t,ItF s.next x)->Bl_ s r r1 r2 r3 f acc (t.length:Int) ⟨t.flatMap Os_++rest,0⟩=Bl_ s r r1 r2 r3 1 (acc++t) 0 ⟨rest,0⟩
 |_,0,_,h,_,_=>by omega
 |[],f+1,acc,_,_,_=>by
   rw[Bl_.eq_2,Bl_.eq_2]
   simp
 |x::t,f+1,acc,hf,hl,hx=>by
   have⟨h1,h2⟩:=hx x pC
   simp only[A2] at hf hl
   have hfl:=flag_r x
   have e1:Ah_ ⟨(x::t).flatMap Os_++rest,0⟩ 1=(Dj_ x,⟨Br_ x.P_++(t.flatMap Os_++rest),0⟩):=by
     rw[BI,Os_]
     simp only[A6]
     exact My_ hfl.1 qX
   have e2:Em_ ⟨Br_ x.P_++(t.flatMap Os_++rest),0⟩=(x.P_,⟨t.flatMap Os_++rest,0⟩):=mail_fwd h1
   rw[Bl_.eq_2]
   have e:decide (0<(((x::t).length:Nat):Int))=true:=decide_eq_true nG
   rw[e]
   simp only[decide_true,BS,cond_true]
   rw[lt,e1,lt,e2]
   have c1:decide (3<Dj_ x)=false:=decide_eq_false qX
   have c2:((!decide (s.next = 0))&&(decide (s.next <= x.P_.id)))=false:=by
     grind
   rw[c1,c2]
   simp only[CE,cond_false]
   have hw:A0 .u64 ((((x::t).length:Nat):Int)-1)=(t.length:Int):=by
     exact tF
   rw[hw,flag_back,items_fwd s r r1 r2 r3 rest t f (acc++[x]) qX qX (λy hy=>hx y pQ)]
   simp
def RwF(next :Int)(r:Fe_):Prop:=LnOk r.l/\Bm_ r.q=0/\U64 r.q.most/\U64 r.q.life/\(r.l.items.length:Int)<=r.q.most/\∀ x∈r.l.items,ItF next x
theorem at_none{s:G_}{n:Bs}(h:∀ r∈s.rows,r.q.name≠n):I_ s n<0:=by
 by_cases q:0<=I_ s n;have h1:=at_b s n;exact (h _ (Gw_ (xs:=s.rows) (k:=(I_ s n).toNat) qX) (at_n q)).elim;omega
theorem make_fwd{s:G_}{q:Aa_}(hc:Bm_ q=0)(hn:∀ r∈s.rows,r.q.name≠q.name)(hl:s.rows.length<8):As_ s q=(⟨s.next,s.bytes,s.rows++[⟨q,⟨[]⟩⟩],s.rises⟩,0):=by
 have ha:=at_none hn;unfold As_;rw[lt,hc,lt];grind
theorem rrow_fwd{s:G_}{r:Fe_}(h:RwF s.next r)(hn:∀ y∈s.rows,y.q.name≠r.q.name)(hl:s.rows.length<8){rest:Bs}:Cu_ s ⟨rowB r++rest,0⟩=(⟨s.next,s.bytes,s.rows++[r],s.rises⟩,⟨rest,0⟩):=by
 have⟨h1,h2,h3,h4,h5,h6⟩:=h;have⟨q1,q2,q3,q4⟩:=Pu_ h2;have h64:=h1.1;have e1:Ag_ ⟨rowB r++rest,0⟩ 16=(r.q.name,⟨numB 8 r.q.most.toNat++(numB 8 r.q.life.toNat++(txtB r.q.dead++(numB 1 r.l.items.length++(r.l.items.flatMap Os_++rest)))),0⟩):=by
   rw[rowB]
   exact sK
 have e2:Ah_ ⟨numB 8 r.q.most.toNat++(numB 8 r.q.life.toNat++(txtB r.q.dead++(numB 1 r.l.items.length++(r.l.items.flatMap Os_++rest)))),0⟩ 8=(r.q.most,⟨numB 8 r.q.life.toNat++(txtB r.q.dead++(numB 1 r.l.items.length++(r.l.items.flatMap Os_++rest))),0⟩):=Ip_ h3.1 (by have :=h3.2;omega);have e3:Ah_ ⟨numB 8 r.q.life.toNat++(txtB r.q.dead++(numB 1 r.l.items.length++(r.l.items.flatMap Os_++rest))),0⟩ 8=(r.q.life,⟨txtB r.q.dead++(numB 1 r.l.items.length++(r.l.items.flatMap Os_++rest)),0⟩):=Ip_ h4.1 (by have :=h4.2;omega);have e4:Ag_ ⟨txtB r.q.dead++(numB 1 r.l.items.length++(r.l.items.flatMap Os_++rest)),0⟩ 16=(r.q.dead,⟨numB 1 r.l.items.length++(r.l.items.flatMap Os_++rest),0⟩):=Ok_;have e5:Ah_ ⟨numB 1 r.l.items.length++(r.l.items.flatMap Os_++rest),0⟩ 1=((r.l.items.length:Int),⟨r.l.items.flatMap Os_++rest,0⟩):=Jn_ qX;unfold Cu_;rw[lt,e1,lt,e2,lt,e3,lt,e4,lt,e5];dsimp only;rw[items_fwd s _ _ _ _ rest r.l.items _ [] qX qX h6,Bl_.eq_2];have c1:decide ((0:Int)<0)=false:=by decide
 rw[c1];simp only[B6,cond_false,AN];rw[lt,lof_fwd h1 (λx hx=>(h6 x hx).1.2.2),lt1];have hw:A0 .u64 (Ej_ r.l)=(r.l.items.length:Int):=Cp_ (show (0:Int)<=(r.l.items.length:Int) by omega) (show (r.l.items.length:Int)<=_ by omega);have ha:=at_none hn;have c2:decide (r.q.most<(r.l.items.length:Int))=false:=decide_eq_false qX;have c3:decide (0<=I_ s r.q.name)=false:=decide_eq_false qX;dsimp only;rw[hw,c2,c3];simp only[CE,cond_false,Wt_];rw[lt,show (⟨r.q.name,r.q.most,r.q.life,r.q.dead⟩:Aa_)=r.q from rfl,make_fwd h2 hn hl];simp only[Wt_,decide_true,cond_true];rw[lt];unfold W_;dsimp only;have hk:(((s.rows++[(⟨r.q,⟨[]⟩⟩:Fe_)]).length:Int)-1).toNat=s.rows.length:=by simp
 rw[hk];have hg:gt (s.rows++[(⟨r.q,⟨[]⟩⟩:Fe_)]) s.rows.length=⟨r.q,⟨[]⟩⟩:=by simp[gt]
 rw[hg];simp
def KF(s:G_):Prop:=StkOk s/\RoB s/\U64 s.next /\ (∀ r∈s.rows,RwF s.next r)/\∀ i,i<16->RiF (A16.get s.rises i)
theorem rows_fwd(text:Bs)(rest:Bs):∀ (t:List Fe_) (f:Nat) (s:G_),t.length<f->s.rows.length+t.length<=8->(∀ r∈t,RwF s.next r)->((s.rows++t).map (·.q.name)).Nodup->Fy_ text f (t.length:Int) ⟨t.flatMap rowB++rest,0⟩ s=Fy_ text 1 0 ⟨rest,0⟩ ⟨s.next,s.bytes,s.rows++t,s.rises⟩
 |_,0,_,h,_,_,_=>by omega
 |[],f+1,s,_,_,_,_=>by
   rw[Fy_.eq_2,Fy_.eq_2]
   simp
 |r::t,f+1,s,hf,hl,hr,hn=>by
   simp only[A2] at hf hl
   have hn1:∀ y∈s.rows,y.q.name≠r.q.name:=λy hy=>by
     rw[C3,CQ] at hn
     exact hn.2.2 y.q.name (List.mem_map.2 ⟨y,hy,rfl⟩) r.q.name pC
   have e1:Cu_ s ⟨(r::t).flatMap rowB++rest,0⟩=(⟨s.next,s.bytes,s.rows++[r],s.rises⟩,⟨t.flatMap rowB++rest,0⟩):=by
     rw[BI,A6]
     exact rrow_fwd (hr r pC) hn1 qX
   rw[Fy_.eq_2]
   have e:decide (0<(((r::t).length:Nat):Int))=true:=decide_eq_true nG
   rw[e]
   simp only[decide_true,BS,cond_true]
   rw[lt,e1]
   have hw:A0 .u64 ((((r::t).length:Nat):Int)-1)=(t.length:Int):=by
     exact tF
   rw[hw,rows_fwd text rest t f ⟨s.next,s.bytes,s.rows++[r],s.rises⟩ qX nV (λy hy=>hr y pQ) (by simpa using hn)]
   simp
theorem ups_fwd(a:A16_RiseR)(ha:∀ i,i<16->RiF (A16.get a i)):∀ (n f:Nat) (s:G_),n<=16->upN a n<f->(∀ i,i<16->A16.get s.rises i = if i<16-n then A16.get a i else ⟨0,[]⟩)->∃ z:A16_RiseR,(∀ i,i<16->A16.get z i=A16.get a i)/\Hs_ f (upN a n:Int) ⟨upB a n,0⟩ s=(⟨[],0⟩,⟨s.next,s.bytes,s.rows,z⟩)
 |0,f,s,_,hf,h=>by
   refine⟨s.rises,λi hi=>by rw[h i hi,if_pos qX],?_⟩
   obtain⟨g,rfl⟩:∃ g,f=g+1:=⟨f-1,by omega⟩
   rw[Hs_]
   simp[upN,upB]
 |n+1,f,s,hn,hf,h=>by
   by_cases q:0<(A16.get a (15-n)).total
   . rw[upN,if_pos q] at hf ⊢
     rw[upB,if_pos q]
     obtain⟨g,rfl⟩:∃ g,f=g+1:=⟨f-1,by omega⟩
     have hle:=upN_le a n
     have e1:Ah_ ⟨(numB 1 (15-n)++B3_ (A16.get a (15-n)))++upB a n,0⟩ 1=(((15-n:Nat):Int),⟨B3_ (A16.get a (15-n))++upB a n,0⟩):=by
       rw[A6]
       exact Jn_ qX
     have⟨z,hz1,hz2⟩:=ups_fwd a ha n g ⟨s.next,s.bytes,s.rows,A16.set s.rises (A16.get a (15-n)) (15-n)⟩ qX qX (λi hi=>by
       show A16.get (A16.set s.rises (A16.get a (15-n)) (15-n)) i=_
       rw[A16.get_set _ _ _ _ qX hi]
       by_cases q2:i=15-n
       . grind
       . rw[if_neg qX,h i hi]
         by_cases q3:i<16-(n+1)
         . grind
         . rw[if_neg q3,if_neg qX])
     refine⟨z,hz1,?_⟩
     rw[Hs_]
     have e:decide (0<((1+upN a n:Nat):Int))=true:=decide_eq_true qX
     rw[e]
     simp only[decide_true,BS,cond_true]
     rw[lt,e1,lt,rread_fwd (ha _ qX)]
     have e3:decide (16<=((15-n:Nat):Int))=false:=decide_eq_false qX
     dsimp only
     rw[e3,cond_false]
     have hw:A0 .u64 (((1+upN a n:Nat):Int)-1)=(upN a n:Int):=by
       exact tD
     grind
   . rw[upN,if_neg q,B9] at hf ⊢
     rw[upB,if_neg q,AN]
     refine ups_fwd a ha n f s qX hf (λi hi=>?_)
     rw[h i hi]
     by_cases q2:i<16-(n+1)
     . grind
     . rw[if_neg q2]
       by_cases q3:i<16-n
       . rw[if_pos q3]
         have hi2:i=15-n:=by omega
         subst hi2
         have⟨h1,h2,_⟩:=ha (15-n) qX
         generalize A16.get a (15-n)=w at q h1 h2
         have⟨t,l⟩:=w
         have ht:t=0:=by have :=h1.1;simp only at this q;omega
         subst ht
         have hl:l=[]:=List.length_eq_zero_iff.1 (by simp only at h2;omega)
         rw[hl]
       . rw[if_neg q3]
theorem a16_ext{α:Type}{a b:A16 α}(h:∀ i,i<16->A16.get a i=A16.get b i):a=b:=by
 have h0:=h 0 qZ;have h1:=h 1 qZ;have h2:=h 2 qZ;have h3:=h 3 qZ;have h4:=h 4 qZ;have h5:=h 5 qZ;have h6:=h 6 qZ;have h7:=h 7 qZ;have h8:=h 8 qZ;have h9:=h 9 qZ;have h10:=h 10 qZ;have h11:=h 11 qZ;have h12:=h 12 qZ;have h13:=h 13 qZ;have h14:=h 14 qZ;have h15:=h 15 qZ;have⟨a0,a1,a2,a3,a4,a5,a6,a7,a8,a9,a10,a11,a12,a13,a14,a15⟩:=a;have⟨b0,b1,b2,b3,b4,b5,b6,b7,b8,b9,b10,b11,b12,b13,b14,b15⟩:=b;have h0:a0=b0:=h0;have h1:a1=b1:=h1;have h2:a2=b2:=h2;have h3:a3=b3:=h3;have h4:a4=b4:=h4;have h5:a5=b5:=h5;have h6:a6=b6:=h6;have h7:a7=b7:=h7;have h8:a8=b8:=h8;have h9:a9=b9:=h9;have h10:a10=b10:=h10;have h11:a11=b11:=h11;have h12:a12=b12:=h12;have h13:a13=b13:=h13;have h14:a14=b14:=h14;have h15:a15=b15:=h15;grind
theorem new_rise(b n:Int):∀ i,i<16->A16.get (Cf_ b n).rises i=⟨0,[]⟩:=λi hi=>by
 unfold Cf_ A16.get
 repeat' split
 all_goals rfl
theorem kof_fwd{s:G_}{b:Int}(h:KF s)(hb:s.bytes=max 0 b)(hr:0<=C3_ s):Iz_ (Y_ s) b=(s,0):=by
 have⟨hs,hq,hn,hw,hi⟩:=h;have h8:=hs.1.1;have hup:=upN_le s.rises 16;have e1:Ah_ ⟨Y_ s,0⟩ 8=(s.next,⟨numB 1 s.rows.length++(s.rows.flatMap rowB++(numB 1 (upN s.rises 16)++upB s.rises 16)),0⟩):=by
   rw[ke hs hq]
   exact Ip_ hn.1 (by have :=hn.2;omega)
 have e2:Ah_ ⟨numB 1 s.rows.length++(s.rows.flatMap rowB++(numB 1 (upN s.rises 16)++upB s.rises 16)),0⟩ 1=((s.rows.length:Int),⟨s.rows.flatMap rowB++(numB 1 (upN s.rises 16)++upB s.rises 16),0⟩):=Jn_ qX;have e3:Ah_ ⟨numB 1 (upN s.rises 16)++upB s.rises 16,0⟩ 1=((upN s.rises 16:Int),⟨upB s.rises 16,0⟩):=Jn_ qX;unfold Iz_;rw[lt,e1,lt,lt,e2];dsimp only;have hf:=rows_fwd (Y_ s) (numB 1 (upN s.rises 16)++upB s.rises 16) s.rows ((s.rows.length:Int).toNat+1) (Cf_ s.next b) qX (by show 0+s.rows.length<=8;omega) hw (show ((([]:List Fe_)++s.rows).map (λr:Fe_=>r.q.name)).Nodup from by simpa using hs.1.2.2);rw[hf,Fy_.eq_2];have c1:decide ((0:Int)<0)=false:=by decide
 rw[c1];simp only[B6,cond_false]
 have⟨z,hz1,hz2⟩:=ups_fwd s.rises hi 16 ((upN s.rises 16:Int).toNat+1) ⟨(Cf_ s.next b).next,(Cf_ s.next b).bytes,(Cf_ s.next b).rows++s.rows,(Cf_ s.next b).rises⟩ qX qX (λi hi2=>by
   show A16.get (Cf_ s.next b).rises i=_
   rw[if_neg qX]
   exact new_rise s.next b i hi2)
 rw[lt2,lt,e3];dsimp only;rw[hz2];have hz:z=s.rises:=a16_ext hz1;have hs2:(⟨(Cf_ s.next b).next,(Cf_ s.next b).bytes,(Cf_ s.next b).rows++s.rows,z⟩:G_)=s:=by
   rw[hz,show (Cf_ s.next b).next = s.next from rfl,show (Cf_ s.next b).bytes=max 0 b from rfl,<- hb,show (Cf_ s.next b).rows=[] from rfl]
   rfl
 dsimp only;rw[hs2];have c2:decide (inEnd ⟨[],0⟩=0)=true:=by decide
 grind
def Wf(m:Mail):Prop:=(U64 m.id/\U64 m.due/\0<=m.hops/\m.hops<=255)/\∀ p∈m.head,p.wf
theorem wf_of{m:Mail}(h:MlF m):Wf m:=⟨⟨h.1.1,h.1.2.1,h.1.2.2.1.1,h.1.2.2.1.2⟩,h.2.1⟩
theorem mlf_of{m:Mail}(h:Wf m)(e:D6_ m=0):MlF m:=by
 have⟨k1,k2,k3,k4,k5⟩:=Ix_ e;have k6:=(Mm_ k3).1;exact⟨⟨h.1.1,h.1.2.1,⟨h.1.2.2.1,h.1.2.2.2⟩,by omega,by omega,by omega,by omega⟩,h.2,e⟩
theorem u64_0:U64 0:=by constructor<;>decide
def LG(next most:Int)(l:List F_):Prop:=(l.length:Int)<=most/\∀ x∈l,ItF next x
def RG(next :Int)(r:Fe_):Prop:=U64 r.q.most/\U64 r.q.life/\LG next r.q.most r.l.items
def KG(k:G_):Prop:=U64 k.next /\ (∀ r∈k.rows,RG k.next r)/\∀ i,i<16->RiF (A16.get k.rises i)
theorem wf_0:Wf ⟨0,[],[],[],[],0,0⟩:=⟨⟨u64_0,u64_0,by simp,by simp⟩,λ_ h=>by cases h⟩
theorem lg_gt{n m:Int}{l:List F_}(h:LG n m l){k:Nat}(hk:k<l.length):ItF n (gt l k):=h.2 _ (Gw_ hk)
theorem wf_gt{n m:Int}{l:List F_}(h:LG n m l){k:Nat}:Wf (gt l k).P_:=by
 by_cases q:k<l.length;exact wf_of (lg_gt h q).1;have :gt l k=default:=by unfold gt;rw[AB,EX qX];rfl
 rw[this];exact wf_0
theorem lg_set{n m:Int}{l:List F_}(h:LG n m l){k:Nat}{a b:Bool}:LG n m (l.set k ⟨(gt l k).P_,a,b⟩):=by
 refine⟨by rw[BC];exact h.1,λx hx=>?_⟩;by_cases q:k<l.length
 . rcases BL hx with e|e
   exact h.2 x e
   rw[e];exact lg_gt h q
 rw[CU qX] at hx;exact h.2 x hx
theorem lg_rem{n m:Int}{l:Ar_}(h:LG n m l.items)(id:Int):LG n m (Ap_ l id).1.items/\Wf (Ap_ l id).2.1.P_/\(0<=Bc_ l id->(Ap_ l id).1.items.length+1=l.items.length):=by
 have hb:-1<=Bc_ l id/\Bc_ l id<l.items.length:=Jj_ _ _;unfold Ap_ lt;let Q:Ar_×F_×Int->Prop:=λr=>LG n m r.1.items/\Wf r.2.1.P_/\(0<=Bc_ l id->r.1.items.length+1=l.items.length);refine bt (P:=Q) (λe=>⟨h,wf_0,λq=>?_⟩) λe=>?_;grind;simp only[decide_eq_false_iff_not] at e;have hl:([l.items.take (Bc_ l id).toNat,l.items.drop (Bc_ l id+1).toNat].flatten).length+1=l.items.length:=by
   grind
 exact⟨⟨by have :=h.1;show ((([l.items.take (Bc_ l id).toNat,l.items.drop (Bc_ l id+1).toNat].flatten).length:Nat):Int)<=m;omega,λx hx=>h.2 x (mem_td hx)⟩,wf_gt h,λ_=>hl⟩
theorem wf_told{n m:Int}{l:Ar_}(h:LG n m l.items){k:Int}:Wf (C8_ l k).1:=by
 unfold C8_ lt;let Q:Mail×Bool->Prop:=λr=>Wf r.1;exact bt (P:=Q) (λ_=>wf_0) λ_=>wf_gt h
theorem lg_lend{n m:Int}{l:Ar_}(h:LG n m l.items):LG n m (Di_ l).1.items:=by
 unfold Di_ lt;let Q:Ar_×F_×Bool->Prop:=λr=>LG n m r.1.items;exact bt (P:=Q) (λ_=>h) λ_=>lg_set h
theorem lg_back{n m:Int}{l:Ar_}(h:LG n m l.items){id:Int}:LG n m (Ea_ l id).1.items:=by
 unfold Ea_ lt;let Q:Ar_×Int->Prop:=λr=>LG n m r.1.items;exact bt (P:=Q) (λ_=>h) λ_=>bt (P:=Q) (λ_=>h) λ_=>lg_set (lg_set h)
theorem lg_wake0{n m:Int}:∀ (t:List F_) (k:Nat) (x:Ar_),LG n m x.items->LG n m (Ch_ t k x).items
 |[],_,_,h=>h
 |y::t,k,x,h=>by
   unfold Ch_
   let Q:Ar_->Prop:=λr=>LG n m r.items
   exact bt (P:=Q) (λ_=>lg_wake0 t _ _ (lg_set (lg_set h))) λ_=>lg_wake0 t _ _ h
theorem first_of{l:Ar_}(h:(Au_ l).2=true):0<=Bc_ l (Au_ l).1.id:=by
 unfold Au_ lt C8_ lt at h ⊢;have hb:-1<=B0_ l/\B0_ l<l.items.length:=Jj_ _ _
 cases e:decide (B0_ l<0) with
 |true=>rw[e] at h;cases h
 |false=>
   rw[decide_eq_false_iff_not] at e
   simp only[cond_false]
   by_cases q:0<=Bc_ l (K_ (gt l.items (B0_ l).toNat).P_).id
   . exact q
   . have h0:Bc_ l (K_ (gt l.items (B0_ l).toNat).P_).id<0:=by omega
     have h1:=Ph_ (p:=λz_4:F_=>(Pn_ z_4 (K_ (gt l.items (B0_ l).toNat).P_).id)) (l:=l.items) h0
     have h2:=List.find?_eq_none.1 h1 _ (Gw_ (xs:=l.items) (k:=(B0_ l).toNat) qX)
     exact (h2 (by simp[Pn_,K_])).elim
theorem lg_add{n m:Int}{l:Ar_}{x:Mail}(h:LG n m l.items)(hl:(l.items.length:Int)<m)(hx:ItF n ⟨x,false,false⟩):LG n m (Ax_ l x).1.items:=by
 unfold Ax_ Dq_ lt;let Q:Ar_×Int->Prop:=λr=>LG n m r.1.items;refine bt (P:=Q) (λ_=>h) λ_=>⟨?_,λy hy=>?_⟩;grind
 . rcases Pr_ hy with q|q
   exact h.2 y q
   rw[q];exact hx
theorem V6_{k:G_}(h:KG k){i:Nat}(hi:i<k.rows.length):RG k.next (gt k.rows i):=h.2.1 _ (Gw_ hi)
theorem Xu_{k:G_}(h:KG k){i:Int}(hi:0<=i/\i<k.rows.length){l:Ar_}(hl:LG k.next (gt k.rows i.toNat).q.most l.items):KG (W_ k i l):=by
 refine⟨h.1,λr hr=>?_,h.2.2⟩
 rcases BL hr with e|e
 exact h.2.1 r e;rw[e];have :=V6_ h (i:=i.toNat) qX;exact⟨this.1,this.2.1,hl⟩
theorem itf_up{n:Int}{x:F_}(hu:U64 n)(hn:n≠0)(h:ItF n x):ItF (IntKind.wrap .u64 (n+1)) x:=by
 refine⟨h.1,?_⟩;have h2:x.P_.id<n:=by rcases h.2 with q|q;exact (hn q).elim;exact q
 have h4:=hu.2;by_cases q:n+1<=18446744073709551615;right;rw[Cp_ (by have :=hu.1;omega) q];omega;exact xI
theorem mailC_id(m:Mail)(a:Int):D6_ ⟨a,m.Al_,m.key,m.head,m.body,m.due,m.hops⟩=D6_ m:=rfl
theorem kg_next{k:G_}(hn:k.next ≠ 0)(h:KG k)(hu:IntKind.wrap .u64 (k.next + 1)=IntKind.wrap .u64 (k.next + 1)):KG ⟨IntKind.wrap .u64 (k.next + 1),k.bytes,k.rows,k.rises⟩:=by
 refine⟨Fv_ _,λr hr=>?_,h.2.2⟩;have⟨h1,h2,h3,h4⟩:=h.2.1 r hr;exact⟨h1,h2,h3,λx hx=>itf_up h.1 hn (h4 x hx)⟩
theorem kg_put{k:G_}(h:KG k)(hn:k.next ≠ 0){i:Int}(hi:0<=i/\i<k.rows.length){l:Ar_}(hl:LG (IntKind.wrap .u64 (k.next + 1)) (gt k.rows i.toNat).q.most l.items):KG ⟨IntKind.wrap .u64 (k.next + 1),(W_ k i l).bytes,(W_ k i l).rows,(W_ k i l).rises⟩:=
 Xu_ (k:=⟨IntKind.wrap .u64 (k.next + 1),k.bytes,k.rows,k.rises⟩) (kg_next hn h Y) hi hl
theorem kg_wake0:∀ (t:List Fe_) (k:Nat) (x:G_),(∀ (j:Nat) (r:Fe_),t[j]? = some r->k+j<x.rows.length/\(gt x.rows (k+j)).q=r.q/\LG x.next r.q.most r.l.items)->KG x->KG (B7_ t k x)
 |[],_,_,_,h=>h
 |y::t,k,x,ht,h=>by
   have⟨h1,h2,h3⟩:=ht 0 y Y
   have hk:(((k:Nat):Int)).toNat=k:=by omega
   have hw:KG (W_ x (k:Int) (Ec_ y.l)):=Xu_ h ⟨by omega,by omega⟩ (by rw[hk,show gt x.rows k=gt x.rows (k+0) from rfl,h2];exact lg_wake0 _ _ _ h3)
   refine kg_wake0 t (k+1) _ (λj r hr=>?_) hw
   have⟨g1,g2,g3⟩:=ht (j+1) r hr
   have hlen:(W_ x (k:Int) (Ec_ y.l)).rows.length=x.rows.length:=T7_ _ _ _
   refine⟨by rw[hlen];omega,?_,g3⟩
   rw[<- g2]
   show (gt (x.rows.set (((k:Nat):Int)).toNat ⟨(gt x.rows (((k:Nat):Int)).toNat).q,Ec_ y.l⟩) (k+1+j)).q=_
   rw[hk]
   have e:k+1+j=k+(j+1):=by omega
   rw[e]
   unfold gt
   rw[AB,CD qX,<- AB]
theorem next_up{n:Int}(hu:U64 n):IntKind.wrap .u64 (n+1)=0\/n<IntKind.wrap .u64 (n+1):=by
 have h4:=hu.2;by_cases q:n+1<=18446744073709551615;right;rw[Cp_ (by have :=hu.1;omega) q];omega;exact xI
theorem due_r{d t l:Int}(h:U64 d):U64 (Jd_ d t l):=by
 unfold Jd_;have hw:=Fv_ (t+l);refine bt (P:=U64) (λ_=>h) λ_=>bt (P:=U64) (λ_=>hw) λ_=>?_;have⟨h1,h2⟩:=h;constructor<;>omega
theorem kg_late0(t:Int):∀ (l:List Fe_) (n:Int),(∀ r∈l,RG n r)->Wf (Bi_ t l).2.1
 |[],_,_=>wf_0
 |y::l,n,h=>by
   unfold Bi_ lt
   let Q:Bs×Mail×Bool->Prop:=λr=>Wf r.2.1
   refine bt (P:=Q) (λ_=>?_) λ_=>kg_late0 t l n λr hr=>h r (by simp[hr])
   unfold Eb_ lt
   exact wf_told (h y pC).2.2
theorem cloG:Clw U64 Wf KG NtF where
 kp:=λ{k n m} hk hm h=>by
   have ha:=at_b k n
   unfold A6_ lt
   let Q:G_×Int×Mail×Int->Prop:=λr=>KG r.1/\Wf r.2.2.1
   refine bt (P:=Q) (λ_=>⟨h,wf_0⟩) λe1=>bt (P:=Q) (λ_=>⟨h,wf_0⟩) λe2=>bt (P:=Q) (λ_=>⟨h,wf_0⟩) λe3=>?_
   simp only[decide_eq_false_iff_not,BF,decide_eq_true_eq] at e1 e2 e3
   have hi:0<=I_ k n/\I_ k n<k.rows.length:=by omega
   have⟨r1,r2,r3⟩:=V6_ h (i:=(I_ k n).toNat) qX
   have hln:LnOk (gt k.rows (I_ k n).toNat).l:=hk.1.2.1 _ (Gw_ qX)
   have h64:=hln.1
   have hw:A0 .u64 (Ej_ (gt k.rows (I_ k n).toNat).l)=((gt k.rows (I_ k n).toNat).l.items.length:Int):=Cp_ (show (0:Int)<=((gt k.rows (I_ k n).toNat).l.items.length:Int) by omega) (show ((gt k.rows (I_ k n).toNat).l.items.length:Int)<=_ by omega)
   obtain⟨row,hrow⟩:∃ row,gt k.rows (I_ k n).toNat=row:=⟨_,rfl⟩
   rw[hrow] at r1 r2 r3 hln h64 hw ⊢
   rw[hw]
   refine lp2E (P:=Q) (λq=>LG k.next row.q.most q.1.items/\(q.1.items.length:Int)<row.q.most/\Wf q.2) ?_ λx x1 hx=>?_
   . refine bt (P:=LoP _ _) (λc=>bt (P:=LoP _ _) (λ_=>⟨h,wf_0⟩) λc2=>?_) λc=>⟨r3,?_,wf_0⟩
     . simp only[BF] at c2
       have hrm:=lg_rem r3 (Au_ row.l).1.id
       have h3:=hrm.2.2 (first_of c2)
       refine⟨hrm.1,?_,?_⟩
       . have :=r3.1
         show ((Ap_ row.l (Au_ row.l).1.id).1.items.length:Int)<row.q.most
         omega
       . show Wf (Au_ row.l).1
         unfold Au_ lt
         exact wf_told r3
     . simp only[decide_eq_false_iff_not] at c
       show (row.l.items.length:Int)<row.q.most
       omega
   . refine bt (P:=Q) (λ_=>⟨h,wf_0⟩) λ_=>bt (P:=Q) (λ_=>⟨h,wf_0⟩) λ_=>⟨?_,hx.2.2⟩
     have hm1:MlF ⟨k.next,m.Al_,m.key,m.head,m.body,m.due,m.hops⟩:=mlf_of ⟨⟨h.1,hm.1.2.1,hm.1.2.2.1,hm.1.2.2.2⟩,hm.2⟩ (by rw[mailC_id];exact e2)
     refine kg_put h e3 hi ?_
     rw[hrow]
     exact lg_add ⟨hx.1.1,λy hy=>itf_up h.1 e3 (hx.1.2 y hy)⟩ hx.2.1 ⟨hm1,next_up h.1⟩
 kl:=λ{k n} h=>by
   have ha:=at_b k n
   unfold Cb_ lt
   let Q:G_×F_×Bool->Prop:=λr=>KG r.1
   refine bt (P:=Q) (λ_=>h) λe=>?_
   simp only[decide_eq_false_iff_not] at e
   exact Xu_ h qX (lg_lend (V6_ h qX).2.2)
 kr:=λ{k n i} h=>by
   have ha:=at_b k n
   unfold Ab_ lt
   let Q:G_×F_×Int->Prop:=λr=>KG r.1/\Wf r.2.1.P_
   refine bt (P:=Q) (λ_=>⟨h,wf_0⟩) λe=>?_
   simp only[decide_eq_false_iff_not] at e
   have hr:=lg_rem (V6_ h (i:=(I_ k n).toNat) qX).2.2 i
   exact⟨Xu_ h qX hr.1,hr.2.1⟩
 kb:=λ{k n i} h=>by
   have ha:=at_b k n
   unfold Bz_ lt
   let Q:G_×Int->Prop:=λr=>KG r.1
   refine bt (P:=Q) (λ_=>h) λe=>?_
   simp only[decide_eq_false_iff_not] at e
   exact Xu_ h qX (lg_back (V6_ h qX).2.2)
 ks:=λ{k p m} hm h=>by
   unfold Ba_ lt
   let Q:G_×Int->Prop:=λr=>KG r.1
   refine bt (P:=Q) (λ_=>h) λe=>bt (P:=Q) (λ_=>h) λ_=>bt (P:=Q) (λ_=>h) λ_=>⟨h.1,h.2.1,λi hi=>?_⟩
   simp only[AY,decide_eq_false_iff_not] at e
   show RiF (A16.get (A16.set k.rises (Bw_ (A16.get k.rises p.toNat) m).1 p.toNat) i)
   rw[A16.get_set _ _ _ _ qX hi]
   split
   . exact rput_f (mlf_of hm) (h.2.2 _ qX)
   . exact h.2.2 i hi
 kw:=λ{k} _ h=>kg_wake0 _ _ _ (λj r hr=>by
   have hl:=(List.getElem?_eq_some_iff.1 hr).1
   have hg:gt k.rows j=r:=by unfold gt;rw[AB,hr];rfl
   rw[B9]
   refine⟨hl,by rw[hg],?_⟩
   have :=V6_ h hl
   rw[hg] at this
   exact this.2.2) h
 kt:=λ{k t} h=>kg_late0 t _ _ h.2.1
 na:=λht hk h=>nadd_f ht hk h
 wd:=λh=>⟨⟨u64_0,due_r h.1.2.1,h.1.2.2⟩,h.2⟩
 wr:=λh=>⟨⟨u64_0,h.1.2⟩,h.2⟩
 wb:=λ{m s} h=>⟨⟨h.1.1,u64_0,wr_u8 _⟩,h.2⟩
 wp:=λ{m} h=>⟨⟨h.1.1,h.1.2.1,wr_u8 _⟩,h.2⟩
theorem doG{s:E_}{d:T_}(ht:U64 d.tick)(hc:0<=d.code/\d.code<=255)(h:StOk s)(h0:0<=d.P_.hops)(hm:Wf d.P_)(hqm:U64 d.queue.most)(hql:U64 d.queue.life)(hs:KG s.x.C_)(hn:NtF s.x.notes):KG (Z_ s d).1.x.C_/\NtF (Z_ s d).1.x.notes:=by
 rcases do_w cloG ht hc h h0 hm (⟨rfl,rfl,rfl,hs,hn,rfl,λ_=>id⟩:Kw U64 KG NtF s s) with e|(e|e)|e|e
 grind;exact⟨e.k,e.n⟩;exact⟨e.k,e.n⟩
 . have⟨b,k,e2,e3,_⟩:=queues_x s d
   rw[e,e2]
   refine⟨?_,hn⟩
   show KG k
   rcases e3 with rfl|rfl
   . unfold As_ lt
     let R:G_×Int->Prop:=λr=>KG r.1
     refine bt (P:=R) (λ_=>hs) λ_=>bt (P:=R) (λ_=>hs) λ_=>bt (P:=R) (λ_=>hs) λ_=>bt (P:=R) (λ_=>hs) λ_=>⟨hs.1,λr hr=>?_,hs.2.2⟩
     rcases Pr_ hr with q|q
     exact hs.2.1 r q
     rw[q];exact⟨hqm,hql,hqm.1,λ_ h=>by cases h⟩
   unfold Bg_ lt
   let R:G_×Int->Prop:=λr=>KG r.1
   exact bt (P:=R) (λ_=>hs) λ_=>⟨hs.1,λr hr=>hs.2.1 r (mem_td hr),hs.2.2⟩
 have⟨b,e2,_⟩:=shops_x s d;grind
theorem newG{p:H_}{k:Int}(hb:U64 (Av_ p k).x.C_.next):KG (Av_ p k).x.C_/\NtF (Av_ p k).x.notes:=by
 refine⟨⟨hb,(λ_ h=>by cases h),λi hi=>?_⟩,ntf_nil⟩
 have :∀ i,i<16->A16.get (Av_ p k).x.C_.rises i=⟨0,[]⟩:=bw16 Y Y Y Y Y Y Y Y Y Y Y Y Y Y Y Y;rw[this i hi];exact rif_nil
theorem kf_of{k:G_}(h:StkOk k)(hq:RoB k)(hg:KG k):KF k:=
 ⟨h,hq,hg.1,λr hr=>⟨h.1.2.1 r hr,hq r hr,(hg.2.1 r hr).1,(hg.2.1 r hr).2.1,(hg.2.1 r hr).2.2.1,(hg.2.1 r hr).2.2.2⟩,hg.2.2⟩
def fRow(r:Fe_):G9_:=⟨r.q,r.l.items⟩
def fK(k:G_):Ac_:=⟨k.next,k.bytes,k.rows.map fRow,k.rises⟩
theorem gt_map{α β:Type}[Inhabited α][Inhabited β](f:α->β){l:List α}{n:Nat}(h:n<l.length):gt (l.map f) n=f (gt l n):=by simp[gt,h]
theorem kw_of{k:G_}(h:KG k):KW k:=⟨λr hr x hx=>((h.2.1 r hr).2.2.2 x hx).1.2.1,λi hi m hm=>((h.2.2 i hi).2.2 m hm).2.1⟩
theorem r21check(q:Aa_):Q8_ q=Bm_ q:=by
 unfold Q8_ Bm_ lt1;by_cases e:C6_ q.name=0
 . rw[e]
   simp only[decide_true,AW,A5,cond_false]
   cases ((decide (q.most<1))||(decide (64<q.most))) with
   |true=>simp
   |false=>
     simp only[cond_false,decide_true,AW]
 rw[decide_eq_false e];simp[e]
theorem Oi_(k:G_)(n:Bs):Dk_ (fK k) n=I_ k n:=
 Sx_ (λz=>Rf_ z n) (λl j=>J6_ n (l.map fRow) j) (λ_=>rfl) (λ_ _ _=>rfl) k.rows 0
theorem f_len(k:G_):((fK k).rows.length:Int)=(k.rows.length:Int):=by simp[fK]
theorem r21make{k:G_}{q:Aa_}:Sg_ (fK k) q=(fK (As_ k q).1,(As_ k q).2):=by
 unfold Sg_ As_ lt;dsimp only;rw[r21check,Oi_,f_len];have hb:=at_b k q.name;by_cases e:Bm_ q=0;rw[decide_eq_true e];simp only[A5,cond_false];by_cases e1:0<=I_ k q.name
 . have hg:(gt (fK k).rows (I_ k q.name).toNat).q=(gt k.rows (I_ k q.name).toNat).q:=by
     show (gt (k.rows.map fRow) _).q=_
     rw[gt_map fRow qX];rfl
   rw[decide_eq_true e1,hg]
   cases decide ((gt k.rows (I_ k q.name).toNat).q=q)<;>rfl
 . rw[decide_eq_false e1]
   simp only[B6,cond_false]
   cases decide (8<=(k.rows.length:Int)) with
   |true=>rfl
   |false=>simp[fK,fRow]
 rw[decide_eq_false e];rfl
theorem drop0(s:Ac_)(n:Bs):∀ (t out:List G9_),If_ s n t out=(⟨s.next,s.most,out++t.filter (λx=>!decide (x.q.name=n)),s.rises⟩,0)
 |[],out=>by rw[If_];simp
 |x::t,out=>by
   rw[If_,drop0 s n t,drop0 s n t]
   cases e:decide (x.q.name=n)<;>simp[e]
theorem filter_cut{l:List Fe_}{n:Bs}{i:Nat}(hn:(l.map (·.q.name)).Nodup)(hi:i<l.length)(he:(gt l i).q.name=n):l.filter (λx=>!decide (x.q.name=n))=l.take i++l.drop (i+1):=by
 have hl:l=l.take i++(gt l i::l.drop (i+1)):=by rw[<- S2_ hi,AL]
 rw[hl,C3,AG,CQ] at hn;have⟨_,h2,h3⟩:=hn;rw[CG] at h2;have ha:(l.take i).filter (λx=>!decide (x.q.name=n))=l.take i:=by
   rw[BN]
   intro x hx
   have :=h3 x.q.name (BO (f:=λr:Fe_=>r.q.name) hx) (gt l i).q.name pC
   exact tO
 have hb:(l.drop (i+1)).filter (λx=>!decide (x.q.name=n))=l.drop (i+1):=by
   rw[BN]
   intro x hx
   have :x.q.name≠(gt l i).q.name:=λe=>h2.1 (e ▸ BO (f:=λr:Fe_=>r.q.name) hx)
   exact tO
 exact zD
theorem r21drop{k:G_}(h:StkOk k){n:Bs}:Se_ (fK k) n=(fK (Bg_ k n).1,(Bg_ k n).2):=by
 unfold Se_ Bg_ lt;dsimp only;rw[Oi_];have hb:=at_b k n;by_cases e:I_ k n<0;exact tI;rw[decide_eq_false e];simp only[cond_false];rw[drop0];have hc:=filter_cut (n:=n) (i:=(I_ k n).toNat) h.1.2.2 qX (at_n qX);have e1:(I_ k n+1).toNat=(I_ k n).toNat+1:=by omega
 rw[e1];simp only[fK,AN,AQ,B7,AS,List.filter_map];rw[show ((λx:G9_=>!decide (x.q.name=n)) ∘ fRow)=(λx:Fe_=>!decide (x.q.name=n)) from rfl,hc]
theorem with0(s:Ac_)(n:Nat)(l:List F_):∀ (t:List G9_) (k:Nat) (out:List G9_),Fj_ s (n:Int) l t k out=⟨s.next,s.most,out++(if k<=n then t.set (n-k) ⟨(gt t (n-k)).q,l⟩ else t),s.rises⟩
 |[],k,out=>by rw[Fj_];simp
 |x::t,k,out=>by
   rw[Fj_,with0 s n l t (k+1),with0 s n l t (k+1)]
   by_cases q:(k:Int)=n
   . rw[decide_eq_true q,cond_true,if_neg qX,if_pos qX]
     have :n-k=0:=by omega
     rw[this];simp[gt]
   . rw[decide_eq_false q,cond_false]
     by_cases q2:k<=n
     . rw[if_pos qX,if_pos q2]
       have :n-k=n-(k+1)+1:=by omega
       rw[this];simp[gt]
     . exact tW
theorem Zf_{k:G_}{n:Nat}{l:Ar_}(h:n<k.rows.length):Ex_ (fK k) (n:Int) l.items=fK (W_ k (n:Int) l):=by
 unfold Ex_;rw[with0];unfold W_ fK;simp only[B5,if_true,Nat.sub_zero,AN,A7];rw[gt_map fRow h,List.map_set];rfl
theorem gt_f{k:G_}{n:Nat}(h:n<k.rows.length):gt (fK k).rows n=fRow (gt k.rows n):=gt_map fRow h
theorem at_c(k:G_)(n:Bs):I_ k n<0\/∃ i:Nat,I_ k n=i/\i<k.rows.length:=by
 have hb:=at_b k n;by_cases e:I_ k n<0;exact .inl e;exact .inr ⟨(I_ k n).toNat,by omega,by omega⟩
theorem r21lend{k:G_}{n:Bs}:Sf_ (fK k) n=(fK (Cb_ k n).1,(Cb_ k n).2):=by
 unfold Sf_ Cb_ lt;dsimp only;rw[Oi_]
 rcases at_c k n with e|⟨i,e,hi⟩
 exact tI;rw[e,decide_eq_false qX];simp only[cond_false,A7];rw[gt_f hi,show (fRow (gt k.rows i)).l=(gt k.rows i).l.items from rfl,r18lend,Zf_ hi]
theorem r21back{k:G_}{n:Bs}{id:Int}:Sd_ (fK k) n id=(fK (Bz_ k n id).1,(Bz_ k n id).2):=by
 unfold Sd_ Bz_ lt;dsimp only;rw[Oi_]
 rcases at_c k n with e|⟨i,e,hi⟩
 exact tI;rw[e,decide_eq_false qX];simp only[cond_false,A7];rw[gt_f hi,show (fRow (gt k.rows i)).l=(gt k.rows i).l.items from rfl,r18back,Zf_ hi]
theorem Uv_(k:G_)(n:Bs)(id:Int):Gd_ (fK k) n id=(fK (Ab_ k n id).1,(Ab_ k n id).2):=by
 unfold Gd_ Ab_ lt;dsimp only;rw[Oi_]
 rcases at_c k n with e|⟨i,e,hi⟩
 exact tI;rw[e,decide_eq_false qX];simp only[cond_false,A7];rw[gt_f hi,show (fRow (gt k.rows i)).l=(gt k.rows i).l.items from rfl,r18remove,Zf_ hi]
theorem r21late0(t:Int):∀ l:List Fe_,(∀ r∈l,∀ x∈r.l.items,0<=x.P_.due)->J7_ t (l.map fRow)=Bi_ t l
 |[],_=>rfl
 |r::l,h=>by
   rw[AG]
   unfold J7_ Bi_ lt
   have :Sc_ (fRow r).l t=Eb_ r.l t:=r18late (h r pC)
   rw[this,r21late0 t l λq hq=>h q oA]
   rfl
theorem r21late{k:G_}(h:KG k)(t:Int):Mt_ (fK k) t=Aw_ k t:=
 r21late0 t k.rows λr hr x hx=>(wf_of ((h.2.1 r hr).2.2.2 x hx).1).1.2.1.1
def toK(s:Ac_):G_:=⟨s.next,s.most,s.rows.map λr=>⟨r.q,⟨r.l⟩⟩,s.rises⟩
def toS(q:M_):E_:=⟨⟨q.book,toK q.C_,q.notes,q.seen,q.spent⟩,q.p,q.at_⟩
def fS(s:E_):M_:=⟨s.L_,s.place,s.x.book,fK s.x.C_,s.x.notes,s.x.seen,s.x.spent⟩
theorem toK_f(k:G_):toK (fK k)=k:=by
 unfold toK fK;dsimp only;rw[DP];have :((λr:G9_=>(⟨r.q,⟨r.l⟩⟩:Fe_)) ∘ fRow)=id:=rfl;rw[this,GQ]
theorem fK_to(s:Ac_):fK (toK s)=s:=by
 unfold toK fK;dsimp only;rw[DP];have :(fRow ∘ (λr:G9_=>(⟨r.q,⟨r.l⟩⟩:Fe_)))=id:=rfl;rw[this,GQ]
theorem toS_f(s:E_):toS (fS s)=s:=by
 unfold toS fS;dsimp only;rw[toK_f]
theorem fS_to(q:M_):fS (toS q)=q:=by
 unfold toS fS;dsimp only;rw[fK_to]
def Ef_(k:List Bs)(may:List Bool)(y:Bs):Nat->List Bool->Int->(List Bool)
 |0,_,_=>default
 | f2+1,next_,j=>(bif decide (j<=(k.length:Int)) then
 (bif decide (y=[35]) then
 (bif (gt may ((j).toNat)) then
 Ef_ k may y f2 (next_.set ((j).toNat) true) (j+1)
 else (bif decide (0<j) then
 Ef_ k may y f2 (next_.set ((j).toNat) (gt next_ (((j-1)).toNat))) (j+1)
 else Ef_ k may y f2 (next_.set ((j).toNat) false) (j+1)))
 else (bif decide (0<j) then
 Ef_ k may y f2 (next_.set ((j).toNat) ((gt may (((j-1)).toNat))&&((decide (y=[42]))||(decide (y=(gt k (((j-1)).toNat))))))) (j+1)
 else Ef_ k may y f2 next_ (j+1)))
 else next_)
def F1_(k:List Bs):List Bs->List Bool->Bool
 |[],may=>(gt may k.length)
 | x::t,may=>(lt1 (Ef_ k may x (k.length+1-((0:Int)).toNat+1) (AJ (k.length+1) false) 0) (λmay1=>
 F1_ k t may1))
def Lj_(p:List Bs)(k:List Bs):Bool:=
 F1_ k p ((AJ (k.length+1) false).set 0 true)
def Lk_(p:Pair):List Pair->Bool
 |[]=>false
 | x::t=>(bif decide (x=p) then
 true
 else Lk_ p t)
def Y4_(h:List Pair)(p:Pair):Bool:=
 Lk_ p h
def Ic_(r:Rule)(h:List Pair):List Pair->Int->Bool
 | [],n=>(bif r.all then
 (decide (n=(r.want.length:Int)))
 else (decide (0<n)))
 | x::t,n=>(bif (Y4_ h x) then
 Ic_ r h t (n+1)
 else Ic_ r h t n)
def Rz_(r:Rule)(key:Bs)(h:List Pair):Bool:=
 (bif decide (r.sort=0) then
 (decide (r.key=key))
 else (bif decide (r.sort=1) then
 true
 else (bif decide (r.sort=2) then
 (Lj_ (C0_ r.key) (C0_ key))
 else Ic_ r h r.want 0)))
def Nc_(r:Rule):Int:=
 (bif decide (3<r.sort) then
 8
 else (bif !decide ((keyE (E1_ (decide (0<r.sort))) r.key)=0) then
 (keyE (E1_ (decide (0<r.sort))) r.key)
 else (Dz_ r.want)))
def J5_(name:Bs):List X_->Nat->Int
 |[],k=>(-1)
 | x::t,k=>(bif decide ((x.name)=name) then
 (k:Int)
 else J5_ name t (k+1))
def Gc_(b:Ai_)(name:Bs):Int:=
 J5_ name b.Ae_ 0
def N4_(x:R_)(sort:Int):Rule:=
 (⟨sort,x.key,x.want,x.all⟩:Rule)
def Ke_(l:List Bs)(s:Bs):Nat->Nat->(List Bs)
 |0,_=>default
 | f2+1,v=>(bif decide ((v:Int)<(l.length:Int)) then
 (bif decide ((gt l v)=s) then
 l
 else Ke_ l s f2 (v+1))
 else (l++[s]))
def Oh_(l:List Bs)(s:Bs):(List Bs):=
 Ke_ l s (l.length-0+1) 0
def Hi_(b:Ai_)(Al_:Bs)(key:Bs)(h:List Pair)(r:Int):List R_->List Bs->List Bs->(List Bs)×(List Bs)×Int
 |[],queues,places=>(queues,places,0)
 | x::t,queues,places=>(bif ((decide ((x.Al_)=Al_))&&(Rz_ (N4_ x ((gt b.Ae_ ((r).toNat)).sort)) key h)) then
 (bif x.up then
 lt (Oh_ places (x.to')) λr1=>
 Hi_ b Al_ key h r t queues r1
 else lt (Oh_ queues (x.to')) λr2=>
 Hi_ b Al_ key h r t r2 places)
 else Hi_ b Al_ key h r t queues places)
def Jp_(b:Ai_)(Al_:Bs)(key:Bs)(h:List Pair):(List Bs)×(List Bs)×Int:=
 lt (Gc_ b Al_) λr=>
 (bif decide (r<0) then
 ([],[],10)
 else (bif decide (((gt b.Ae_ ((r).toNat)).sort)=4) then
 ([],[(gt b.Ae_ ((r).toNat)).to'],0)
 else Hi_ b Al_ key h r b.binds [] []))
def Gr_(b:Ai_)(queue:Bs):List R_->List R_->Ai_
 |[],l=>(⟨b.Ae_,l⟩:Ai_)
 | x::t,l=>(bif ((x.up)||(!decide ((x.to')=queue))) then
 Gr_ b queue t (l++[x])
 else Gr_ b queue t l)
def Ll_(b:Ai_)(queue:Bs):Ai_:=
 Gr_ b queue b.binds []
def Sb_(b:Ai_)(x:X_):Ai_×Int:=
 (lt1 ((bif ((decide ((C6_ x.name)=0))&&(decide (4<x.sort))) then
 8
 else (C6_ x.name))) (λe_1=>
 (lt1 ((bif ((decide (e_1=0))&&(decide (x.sort=4))) then
 (C6_ x.to')
 else e_1)) (λe_2=>
 (lt1 ((bif (((decide (e_2=0))&&(decide (x.sort<4)))&&(!decide (x.to'=[]))) then
 4
 else e_2)) (λe_3=>
 (bif !decide (e_3=0) then
 (b,e_3)
 else lt (Gc_ b x.name) λr=>
 (bif ((decide (0<=r))&&(decide ((gt b.Ae_ ((r).toNat))=x))) then
 (b,0)
 else (bif decide (0<=r) then
 (b,9)
 else (bif decide (8<=(b.Ae_.length:Int)) then
 (b,12)
 else ((⟨(b.Ae_++[x]),b.binds⟩:Ai_),0)))))))))))
def Hq_(name:Bs):List R_->List X_->List R_->Ai_×Int
 |[],shops1,binds1=>((⟨shops1,binds1⟩:Ai_),0)
 | x::t,shops1,binds1=>(bif !decide ((x.Al_)=name) then
 Hq_ name t shops1 (binds1++[x])
 else Hq_ name t shops1 binds1)
def Id_(b:Ai_)(name:Bs):List X_->List X_->List R_->Ai_×Int
 |[],Ae_,binds=>Hq_ name b.binds Ae_ binds
 | x1::t1,Ae_,binds=>(bif !decide ((x1.name)=name) then
 Id_ b name t1 (Ae_++[x1]) binds
 else Id_ b name t1 Ae_ binds)
def Sa_(b:Ai_)(name:Bs):Ai_×Int:=
 lt (Gc_ b name) λr=>
 (bif decide (r<0) then
 (b,10)
 else Id_ b name b.Ae_ [] [])
def Fi_(b:Ai_)(x:R_):List R_->Ai_×Int
 | []=>(bif decide (32<=(b.binds.length:Int)) then
 (b,12)
 else ((⟨b.Ae_,(b.binds++[x])⟩:Ai_),0))
 | x1::t=>(bif decide (x=x1) then
 (b,0)
 else Fi_ b x t)
def Kd_(b:Ai_)(x:R_):Ai_×Int:=
 lt (Gc_ b x.Al_) λr=>
 (bif decide (r<0) then
 (b,10)
 else (bif decide (((gt b.Ae_ ((r).toNat)).sort)=4) then
 (b,8)
 else (lt1 ((bif decide ((C6_ x.to')=0) then
 lt (N4_ x ((gt b.Ae_ ((r).toNat)).sort)) λr1=>
 (Nc_ r1)
 else (C6_ x.to'))) (λe_1=>
 (bif !decide (e_1=0) then
 (b,e_1)
 else Fi_ b x b.binds)))))
def F2_(b:Ai_)(x:R_):List R_->List R_->Int->Ai_×Int
 | [],l,e_1=>(bif decide (e_1=0) then
 ((⟨b.Ae_,l⟩:Ai_),e_1)
 else (b,e_1))
 | x1::t,l,e_1=>(bif decide (x=x1) then
 F2_ b x t l 0
 else F2_ b x t (l++[x1]) e_1)
def M0_(b:Ai_)(x:R_):Ai_×Int:=
 F2_ b x b.binds [] 10
def Q9_(p:H_)(at_:Int):M_:=
 lt (Zd_ ((gt p.places ((at_).toNat)).base) ((gt p.places ((at_).toNat)).bytes)) λr=>
 (⟨p,at_,aW,r,bE,(⟨0,0,0,0,0,0,0,0,0,0,0,0,0,0,0,0⟩:A16_u64),(⟨aJ,aJ,aJ,aJ,aJ,aJ,aJ,aJ⟩:A8_SpentR)⟩:M_)
def Oj_(own:Int)(tick:Int)(life:Int):Int:=
 (bif ((decide (life=0))||(decide ((A0 .u64 (tick+life))<tick))) then
 own
 else (bif ((decide (0<own))&&(decide (own<(A0 .u64 (tick+life))))) then
 own
 else (A0 .u64 (tick+life))))
def F3_(s:M_)(tick:Int)(kind:Int)(text:Bs):M_:=
 lt (Q7_ s.notes (⟨tick,kind,text⟩:D2_)) λr=>
 (⟨s.p,s.at_,s.book,s.C_,r.1,s.seen,s.spent⟩:M_)
def O8_(s:M_)(to_:Int)(tick:Int):M_×Bool:=
 lt (Fx_ s.p s.at_ to_) λr=>
 (bif decide (r<0) then
 (s,false)
 else lt (O4_ s.p tick) λr1=>
 (lt1 ((bif decide (((A8.get s.spent ((r).toNat)).round)=r1) then
 ((A8.get s.spent ((r).toNat)).count)
 else 0)) (λn=>
 (bif decide (((gt s.p.grants ((r).toNat)).budget)<=n) then
 (s,false)
 else lt (F3_ (⟨s.p,s.at_,s.book,s.C_,s.notes,s.seen,(A8.set s.spent (⟨r1,(n+1)⟩:A2_) ((r).toNat))⟩:M_) tick 2 ((gt s.p.places ((to_).toNat)).name)) λr2=>
 (r2,true)))))
def Dv_(m:Mail)(tick:Int):List Bs->List Er_->Int->M_->M_×(List Er_)×Int×Int
 |[],gone,n,x=>(x,gone,n,0)
 |x1::t,gone,n,x=>lt (Dk_ x.C_ x1) λr=>
 (bif decide (r<0) then
 Dv_ m tick t gone n x
 else lt (S9_ x.C_ x1 (⟨m.id,m.Al_,m.key,m.head,m.body,(Oj_ m.due tick ((gt x.C_.rows ((r).toNat)).q.life)),m.hops⟩:Mail)) λr1=>
 (bif !decide (r1.2.2.2=0) then
 (x,[],0,r1.2.2.2)
 else (bif !decide (r1.2.2.1.Al_=[]) then
 Dv_ m tick t (gone++[(⟨x1,r1.2.2.1⟩:Er_)]) (n+1) (⟨x.p,x.at_,x.book,r1.1,x.notes,x.seen,x.spent⟩:M_)
 else Dv_ m tick t gone (n+1) (⟨x.p,x.at_,x.book,r1.1,x.notes,x.seen,x.spent⟩:M_))))
def L9_(s:M_)(queues:List Bs)(m:Mail)(tick:Int):M_×(List Er_)×Int×Int:=
 Dv_ m tick queues [] 0 s
def I9_(s:M_)(m:Mail)(tick:Int)(r:(List Bs)×(List Bs)×Int)(r1:M_×(List Er_)×Int×Int):List Bs->Int->M_->M_×(List Er_)×Int×Int
 |[],n,x=>(x,r1.2.1,n,0)
 |x2::t,n,x=>lt (Ku_ s.p x2) λr2=>
 (lp1 ((bif decide (((gt s.book.Ae_ (((Gc_ s.book m.Al_)).toNat)).sort)=4) then
 lt (O8_ x r2 tick) λr3=>
 (bif !r3.2 then
 .ret (s,[],0,19)
 else .fin r3.1)
 else .fin x)) (λx1=>
 lt (Jr_ x1.C_ r2 (⟨0,m.Al_,m.key,m.head,m.body,m.due,m.hops⟩:Mail)) λr4=>
 (bif !decide (r4.2=0) then
 (s,[],0,r4.2)
 else I9_ s m tick r r1 t (n+1) (⟨x1.p,x1.at_,x1.book,r4.1,x1.notes,x1.seen,x1.spent⟩:M_))) (λr=>r))
def Pz_(s:M_)(m:Mail)(tick:Int):M_×(List Er_)×Int×Int:=
 lt (Jp_ s.book m.Al_ m.key m.head) λr=>
 (bif !decide (r.2.2=0) then
 (s,[],0,r.2.2)
 else lt (L9_ s r.1 (⟨0,m.Al_,m.key,m.head,m.body,m.due,m.hops⟩:Mail) tick) λr1=>
 (bif !decide (r1.2.2.2=0) then
 (s,[],0,r1.2.2.2)
 else I9_ s m tick r r1 r.2.1 r1.2.2.1 r1.1))
def Ig_(tick:Int):Nat->List Er_->Int->Int->M_->M_×Int
 |0,_,_,_,_=>default
 | f2+1,gone1,lost,i,x=>(bif decide (i<(gone1.length:Int)) then
 (bif ((decide ((Dk_ x.C_ ((gt gone1 ((i).toNat)).queue))<0))||(decide (((gt x.C_.rows (((Dk_ x.C_ ((gt gone1 ((i).toNat)).queue))).toNat)).q.dead)=[]))) then
 Ig_ tick f2 gone1 lost (i+1) x
 else (lt4 ((bif decide (((gt gone1 ((i).toNat)).P_.hops)<4) then
 lt (Pz_ x (⟨(gt gone1 ((i).toNat)).P_.id,(gt x.C_.rows (((Dk_ x.C_ ((gt gone1 ((i).toNat)).queue))).toNat)).q.dead,(gt gone1 ((i).toNat)).P_.key,(gt gone1 ((i).toNat)).P_.head,(gt gone1 ((i).toNat)).P_.body,0,(A0 .u8 (((gt gone1 ((i).toNat)).P_.hops)+1))⟩:Mail) tick) λr=>
 (r.2.2.2,r.2.1,(⟨(gt gone1 ((i).toNat)).P_.id,(gt x.C_.rows (((Dk_ x.C_ ((gt gone1 ((i).toNat)).queue))).toNat)).q.dead,(gt gone1 ((i).toNat)).P_.key,(gt gone1 ((i).toNat)).P_.head,(gt gone1 ((i).toNat)).P_.body,0,(A0 .u8 (((gt gone1 ((i).toNat)).P_.hops)+1))⟩:Mail),r.1)
 else (7,[],(⟨(gt gone1 ((i).toNat)).P_.id,(gt x.C_.rows (((Dk_ x.C_ ((gt gone1 ((i).toNat)).queue))).toNat)).q.dead,(gt gone1 ((i).toNat)).P_.key,(gt gone1 ((i).toNat)).P_.head,(gt gone1 ((i).toNat)).P_.body,0,(gt gone1 ((i).toNat)).P_.hops⟩:Mail),x))) (λe_1 more x1 x2=>
 (bif !decide (e_1=0) then
 lt (F3_ x tick 1 ((gt gone1 ((i).toNat)).queue)) λr1=>
 Ig_ tick f2 gone1 (lost+1) (i+1) r1
 else Ig_ tick f2 (gone1++more) lost (i+1) x2))))
 else (x,lost))
def Mu_(s:M_)(gone:List Er_)(tick:Int):M_×Int:=
 Ig_ tick (wtk (toK s.C_)+wto (gone.drop ((0:Int)).toNat)+1) gone 0 0 s
def P1_(s:M_)(m:Mail)(tick:Int):M_×Ak_×Int:=
 lt (Pz_ s m tick) λr=>
 (bif !decide (r.2.2.2=0) then
 (s,aP,r.2.2.2)
 else lt (Mu_ r.1 r.2.1 tick) λr1=>
 (r1.1,(⟨aV,r.2.2.1,r1.2⟩:Ak_),0))
def O6_(s:M_)(d:T_):M_×Ak_×Int:=
 lt (Sd_ s.C_ d.name d.id) λr=>
 (bif !decide (r.2=0) then
 (s,aP,r.2)
 else (bif decide (d.how=2) then
 ((⟨s.p,s.at_,s.book,r.1,s.notes,s.seen,s.spent⟩:M_),aP,0)
 else lt (Gd_ s.C_ d.name d.id) λr1=>
 (bif decide (d.how=1) then
 lt (Mu_ (⟨s.p,s.at_,s.book,r1.1,s.notes,s.seen,s.spent⟩:M_) [(⟨d.name,r1.2.1.P_⟩:Er_)] d.tick) λr2=>
 (r2.1,(⟨aV,0,r2.2⟩:Ak_),0)
 else ((⟨s.p,s.at_,s.book,r1.1,s.notes,s.seen,s.spent⟩:M_),aP,0))))
def Lq_(tick:Int):Nat->List Er_->Bs->Bool->M_->Mail->M_×Ak_
 |0,_,_,_,_,_=>default
 | f2+1,gone,name,ok,x,x1=>(bif ok then
 lt (Gd_ x.C_ name x1.id) λr1=>
 lt (Mt_ r1.1 tick) λr2=>
 Lq_ tick f2 (gone++[(⟨name,x1⟩:Er_)]) r2.1 r2.2.2 (⟨x.p,x.at_,x.book,r1.1,x.notes,x.seen,x.spent⟩:M_) r2.2.1
 else lt (Mu_ x gone tick) λr3=>
 (r3.1,(⟨aV,(gone.length:Int),r3.2⟩:Ak_)))
def P0_(s:M_)(tick:Int):M_×Ak_:=
 lt (Mt_ s.C_ tick) λr=>
 Lq_ tick (nik (toK s.C_)+1) [] r.1 r.2.2 s r.2.1
def Ux_(s:M_)(d:T_):M_×Ak_×Int:=
 (bif decide ((s.p.places.length:Int)<=d.frm) then
 (s,aP,10)
 else (bif ((!(Kv_ s.p d.frm s.at_))&&(decide ((Fx_ s.p d.frm s.at_)<0))) then
 (s,aP,11)
 else (bif decide (d.number<=(A16.get s.seen ((d.frm).toNat))) then
 (s,aP,13)
 else (lt1 ((bif !(Kv_ s.p d.frm s.at_) then
 lt (F3_ (⟨s.p,s.at_,s.book,s.C_,s.notes,(A16.set s.seen d.number ((d.frm).toNat)),s.spent⟩:M_) d.tick 2 ((gt s.p.places ((d.frm).toNat)).name)) λr=>
 r
 else (⟨s.p,s.at_,s.book,s.C_,s.notes,(A16.set s.seen d.number ((d.frm).toNat)),s.spent⟩:M_))) (λx=>
 (lp1 ((bif decide (d.P_.hops<4) then
 lt (P1_ x (⟨d.P_.id,d.P_.Al_,d.P_.key,d.P_.head,d.P_.body,d.P_.due,(A0 .u8 (d.P_.hops+1))⟩:Mail) d.tick) λr1=>
 (bif decide (r1.2.2=0) then
 .ret (r1.1,r1.2.1,0)
 else .fin (⟨d.P_.id,d.P_.Al_,d.P_.key,d.P_.head,d.P_.body,d.P_.due,(A0 .u8 (d.P_.hops+1))⟩:Mail))
 else .fin d.P_)) (λx1=>
 lt (F3_ x d.tick 1 x1.Al_) λr2=>
 (r2,(⟨aV,0,1⟩:Ak_),0)) (λr=>r)))))))
def O7_(s:M_)(d:T_):M_×Int:=
 (bif decide (d.kind=0) then
 lt (Ku_ s.p d.Al_.to') λr=>
 (bif ((decide (d.Al_.sort=4))&&(decide (r<0))) then
 (s,10)
 else (bif ((decide (d.Al_.sort=4))&&(decide ((Fx_ s.p s.at_ r)<0))) then
 (s,11)
 else lt (Sb_ s.book d.Al_) λr1=>
 ((⟨s.p,s.at_,r1.1,s.C_,s.notes,s.seen,s.spent⟩:M_),r1.2)))
 else (bif decide (d.kind=1) then
 lt (Sa_ s.book d.name) λr2=>
 ((⟨s.p,s.at_,r2.1,s.C_,s.notes,s.seen,s.spent⟩:M_),r2.2)
 else (bif decide (d.kind=4) then
 lt (Ku_ s.p d.bind.to') λr3=>
 (bif ((d.bind.up&&(decide (r3<0)))||((!d.bind.up)&&(decide ((Dk_ s.C_ d.bind.to')<0)))) then
 (s,10)
 else (bif (d.bind.up&&(!(Kv_ s.p s.at_ r3))) then
 (s,11)
 else lt (Kd_ s.book d.bind) λr4=>
 ((⟨s.p,s.at_,r4.1,s.C_,s.notes,s.seen,s.spent⟩:M_),r4.2)))
 else lt (M0_ s.book d.bind) λr5=>
 ((⟨s.p,s.at_,r5.1,s.C_,s.notes,s.seen,s.spent⟩:M_),r5.2))))
def Zg_(s:M_)(d:T_):M_×Ak_×Int:=
 (bif !decide ((Dl_ d)=0) then
 (s,aP,Dl_ d)
 else (lp2 ((bif decide (d.kind=2) then
 lt (Sg_ s.C_ d.queue) λr=>
 .fin (r.2,(⟨s.p,s.at_,s.book,r.1,s.notes,s.seen,s.spent⟩:M_))
 else (bif decide (d.kind=3) then
 lt (Se_ s.C_ d.name) λr1=>
 (bif decide (r1.2=0) then
 lt (Ll_ s.book d.name) λr2=>
 .fin (r1.2,(⟨s.p,s.at_,r2,r1.1,s.notes,s.seen,s.spent⟩:M_))
 else .fin (r1.2,(⟨s.p,s.at_,s.book,r1.1,s.notes,s.seen,s.spent⟩:M_)))
 else (bif decide (d.kind=6) then
 lt (P1_ s d.P_ d.tick) λr3=>
 .ret (r3.1,r3.2.1,r3.2.2)
 else (bif decide (d.kind=7) then
 lt (Dk_ s.C_ d.name) λr4=>
 (bif decide (r4<0) then
 .ret (s,aP,10)
 else lt (Sf_ s.C_ d.name) λr5=>
 (bif !r5.2.2 then
 .ret (s,aP,15)
 else .ret ((⟨s.p,s.at_,s.book,r5.1,s.notes,s.seen,s.spent⟩:M_),(⟨r5.2.1,0,0⟩:Ak_),0)))
 else (bif decide (d.kind=8) then
 lt (O6_ s d) λr6=>
 .ret (r6.1,r6.2.1,r6.2.2)
 else (bif decide (d.kind=9) then
 lt (P0_ s d.tick) λr7=>
 .ret (r7.1,r7.2,0)
 else (bif decide (d.kind=10) then
 lt (Ux_ s d) λr8=>
 .ret (r8.1,r8.2.1,r8.2.2)
 else (bif decide (d.kind=11) then
 lt (Py_ s.C_) λr9=>
 lt (F3_ (⟨s.p,s.at_,s.book,r9,s.notes,s.seen,s.spent⟩:M_) d.tick 3 []) λr10=>
 .fin (Dl_ d,r10)
 else (bif decide (d.kind=12) then
 lt (Q7_ s.notes (⟨d.tick,d.code,d.text⟩:D2_)) λr11=>
 .fin (r11.2,(⟨s.p,s.at_,s.book,s.C_,r11.1,s.seen,s.spent⟩:M_))
 else lt (O7_ s d) λr12=>
 .fin (r12.2,r12.1))))))))))) (λe_1 x=>
 (bif !decide (e_1=0) then
 (s,aP,e_1)
 else (x,aP,0))) (λr=>r)))
def Ra_(yes:Bool):Bs:=
 (bif yes then
 [1]
 else [0])
def H4_:List D2_->Bs->Bs
 |[],s=>s
 |x::t,s=>H4_ t (((s++(numB (numK 8) (x.tick).toNat))++(numB (numK 1) (x.kind).toNat))++(txtB (x.text)))
def Kx_(n:Bu_):Bs:=
 H4_ n.kept ((numB (numK 8) n.total.toNat)++(numB (numK 1) (n.kept.length:Int).toNat))
def F9_:List Mail->Bs->Bs
 |[],s=>s
 |x1::t,s=>F9_ t (s++(Qg_ x1))
def Ky_(x:Az_):Bs:=
 F9_ x.kept ((numB (numK 8) x.total.toNat)++(numB (numK 1) (x.kept.length:Int).toNat))
theorem r24_bl(y:Bool):(Ra_ y).length=1:=by cases y<;>rfl
theorem r20_ln:∀ (t:List Mail) (s:Bs),(∀ m∈t,MlB m)->(F9_ t s).length<=s.length+3000*t.length
 |[],s,_=>by simp[F9_]
 |x::t,s,h=>by
   have⟨h1,h2⟩:=h x (B8 ..)
   have :=Ul_ h1 h2
   have h3:=r20_ln t (s++Qg_ x) (λm hm=>h m (AI _ hm))
   rw[F9_]
   simp only[A4,A2] at h3 ⊢
   omega
theorem r20_len{x:Az_}(h:RiB x):(Ky_ x).length<=50000:=by
 have :=r20_ln x.kept ((numB (numK 8) x.total.toNat)++(numB (numK 1) (x.kept.length:Int).toNat)) h.2;have h1:=h.1;simp only[A4,V_] at this;have e8:numK 8=8:=by decide
 have e1:numK 1=1:=by decide
 unfold Ky_;omega
def H5_:List F_->Bs->Bs
 |[],t2=>t2
 | x::t3,t2=>(lt1 ((bif x.Nr_ then
 1
 else 0)) (λf=>
 (lt1 ((bif x.again then
 (A0 .u64 (f+2))
 else f)) (λf1=>
 H5_ t3 ((t2++(numB (numK 1) f1.toNat))++(Qg_ (x.P_)))))))
def H6_(s:Ac_)(t:Bs):Nat->Int->Bs->Nat->Bs
 |0,_,_,_=>default
 | f4+1,many,up,v=>(bif decide ((v:Int)<16) then
 (bif decide (0<((A16.get s.rises v).total)) then
 H6_ s t f4 (many+1) ((up++(numB (numK 1) (v:Int).toNat))++(Ky_ (A16.get s.rises v))) (v+1)
 else H6_ s t f4 many up (v+1))
 else ((t++(numB (numK 1) (A0 .u64 many).toNat))++up))
def Hj_(s:Ac_):List G9_->Bs->Bs
 |[],t=>H6_ s t (16-0+1) 0 [] 0
 | x1::t4,t=>(lt1 (H5_ (x1.l) (((((t++(txtB (x1.q.name)))++(numB (numK 8) (x1.q.most).toNat))++(numB (numK 8) (x1.q.life).toNat))++(txtB (x1.q.dead)))++(numB (numK 1) ((x1.l).length:Int).toNat))) (λt1=>
 Hj_ s t4 t1))
def Jq_(s:Ac_):Bs:=
 Hj_ s s.rows ((numB (numK 8) s.next.toNat)++(numB (numK 1) (s.rows.length:Int).toNat))
def iz:List F_->Int
 |[]=>0
 |x::l=>Ca_ x.P_+iz l
def rz:List Fe_->Int
 |[]=>0
 |x::l=>iz x.l.items+rz l
def uz(a:A16_RiseR):Nat->Int
 |0=>0
 |n+1=>Cl_ (A16.get a (15-n))+uz a n
theorem lsize_eq0:∀ (t:List F_) (n:Int),Cq_ t n=n+iz t
 |[],n=>by simp[Cq_,iz]
 |x::t,n=>by
   unfold Cq_ lt
   dsimp only
   rw[lsize_eq0 t]
   simp only[iz];omega
theorem lsize_eq(l:Ar_):E2_ l=iz l.items:=by
 unfold E2_;rw[lsize_eq0];omega
theorem ksize_eq1(s:G_):∀ (f:Nat) (n:Int) (k:Nat),k<=16->k<f->Ct_ s f n (16-k)=n+uz s.rises k
 |0,n,k,_,h=>by omega
 |f+1,n,0,_,_=>by
   unfold Ct_
   simp[uz]
 |f+1,n,k+1,h1,h2=>by
   unfold Ct_ lt
   rw[decide_eq_true (show ((16-(k+1):Nat):Int)<16 by omega),cond_true]
   have :=ksize_eq1 s f (n+Cl_ (A16.get s.rises (16-(k+1)))) k qX qX
   dsimp only
   rw[show 16-(k+1)+1=16-k by omega,this]
   simp only[uz]
   rw[show 16-(k+1)=15-k by omega]
   omega
theorem ksize_eq0(s:G_):∀ (t:List Fe_) (n:Int),B6_ s t n=n+rz t+uz s.rises 16
 |[],n=>by
   unfold B6_
   have :=ksize_eq1 s (16-0+1) n 16 qX qX
   rw[this];simp[rz]
 |x::t,n=>by
   unfold B6_ lt
   dsimp only
   rw[ksize_eq0 s t,lsize_eq]
   simp only[rz];omega
theorem Pm_(s:G_):A7_ s=rz s.rows+uz s.rises 16:=by
 unfold A7_;rw[ksize_eq0];omega
theorem uz_far(a:A16_RiseR)(v:Az_)(m:Nat)(hm:m<16):∀ k,k<=16->k<16-m->uz (A16.set a v m) k=uz a k
 |0,_,_=>rfl
 |k+1,h1,h2=>by
   simp only[uz]
   rw[uz_far a v m hm k qX qX,A16.get_set _ _ _ _ hm qX,if_neg qX]
theorem uz_set(a:A16_RiseR)(v:Az_)(m:Nat)(hm:m<16):∀ k,k<=16->16-m<=k->uz (A16.set a v m) k=uz a k-Cl_ (A16.get a m)+Cl_ v
 |0,_,h=>by omega
 |k+1,h1,h2=>by
   simp only[uz]
   rw[A16.get_set _ _ _ _ hm qX]
   by_cases q:15-k=m
   . subst q
     rw[if_pos rfl,uz_far a v (15-k) hm k qX qX];omega
   . rw[if_neg q,uz_set a v m hm k qX qX];omega
theorem iz_app:∀ a b:List F_,iz (a++b)=iz a+iz b
 |[],b=>by simp[iz]
 |x::a,b=>by simp only[CX,iz,iz_app a b];omega
theorem rz_app:∀ a b:List Fe_,rz (a++b)=rz a+rz b
 |[],b=>by simp[rz]
 |x::a,b=>by simp only[CX,rz,rz_app a b];omega
theorem iz_nn:∀ l:List F_,0<=iz l
 |[]=>BM _
 |x::l=>by
   have :=iz_nn l
   have :=(Zm_ x.P_).1
   simp only[iz];omega
theorem rz_set:∀ (l:List Fe_) (k:Nat) (x:Fe_),k<l.length->rz (l.set k x)=rz l-iz (gt l k).l.items+iz x.l.items
 |[],k,x,h=>by cases h
 |y::l,0,x,h=>by
   have e:gt (y::l) 0=y:=rfl
   simp only[FI,rz,e];omega
 |y::l,k+1,x,h=>by
   have :=rz_set l k x pT
   have e:gt (y::l) (k+1)=gt l k:=by simp[gt]
   simp only[FJ,rz,e];omega
theorem rz_cut(l:List Fe_)(k:Nat):rz (l.take k++l.drop (k+1))<=rz l:=by
 conv=>rhs;rw[<- AL k l]
 rw[rz_app,rz_app]
 cases e:l.drop k with
 |nil=>
   have :l.drop (k+1)=[]:=by
     rw[D8] at e ⊢;omega
   rw[this];omega
 |cons x t=>
   have :l.drop (k+1)=t:=by
     exact yN
   rw[this]
   have :=iz_nn x.l.items
   simp only[rz];omega
theorem iz_set:∀ (l:List F_) (k:Nat) (x:F_),x.P_=(gt l k).P_->iz (l.set k x)=iz l
 |[],k,x,_=>rfl
 |y::l,0,x,h=>by
   have e:gt (y::l) 0=y:=rfl
   rw[e] at h
   simp only[FI,iz,h]
 |y::l,k+1,x,h=>by
   have e:gt (y::l) (k+1)=gt l k:=by simp[gt]
   rw[e] at h
   simp only[FJ,iz,iz_set l k x h]
theorem iz_cut{l:List F_}{k:Nat}:iz (l.take k++l.drop (k+1))<=iz l:=by
 conv=>rhs;rw[<- AL k l]
 rw[iz_app,iz_app]
 cases e:l.drop k with
 |nil=>
   have :l.drop (k+1)=[]:=by
     rw[D8] at e ⊢;omega
   rw[this];omega
 |cons x t=>
   have :l.drop (k+1)=t:=by
     exact yN
   rw[this]
   have :=(Zm_ x.P_).1
   simp only[iz];omega
theorem llend_iz{l:Ar_}:iz (Di_ l).1.items=iz l.items:=by
 unfold Di_ lt;let Q:Ar_×F_×Bool->Prop:=λr=>iz r.1.items=iz l.items;exact bt (P:=Q) (λ_=>rfl) λ_=>iz_set _ _ _ Y
theorem lrem_iz{l:Ar_}{id:Int}:iz (Ap_ l id).1.items<=iz l.items:=by
 unfold Ap_ lt;let Q:Ar_×F_×Int->Prop:=λr=>iz r.1.items<=iz l.items;refine bt (P:=Q) (λ_=>BM _) λe=>?_;simp only[decide_eq_false_iff_not] at e;have :(Bc_ l id+1).toNat=(Bc_ l id).toNat+1:=by omega
 show iz ([(l.items.take (Bc_ l id).toNat),(l.items.drop (Bc_ l id+1).toNat)].flatten)<=_;rw[this];simp only[AQ,B7,AS];exact iz_cut
def KOk(b:Int)(k:G_):Prop:=k.bytes=b/\rz k.rows+uz k.rises 16<=b
theorem rz_set_le(l:List Fe_)(k:Nat)(x:Fe_)(h:iz x.l.items<=iz (gt l k).l.items):rz (l.set k x)<=rz l:=by
 by_cases q:k<l.length;rw[rz_set l k x q];omega;rw[CU qX];exact BM _
theorem kwith_k{b:Int}{s:G_}{k:Int}{l:Ar_}(h:KOk b s)(hl:iz l.items<=iz (gt s.rows k.toNat).l.items):KOk b (W_ s k l):=by
 refine⟨h.1,?_⟩;have :=h.2;have :=rz_set_le s.rows k.toNat ⟨(gt s.rows k.toNat).q,l⟩ hl;show rz (s.rows.set _ _)+uz s.rises 16<=b;omega
theorem kmake_k{b:Int}{s:G_}{q:Aa_}(h:KOk b s):KOk b (As_ s q).1:=by
 unfold As_ lt;let Q:G_×Int->Prop:=λr=>KOk b r.1;refine bt (P:=Q) (λ_=>h) λ_=>bt (P:=Q) (λ_=>h) λ_=>bt (P:=Q) (λ_=>h) λ_=>bt (P:=Q) (λ_=>h) λ_=>⟨h.1,?_⟩;show rz ([s.rows,[⟨q,⟨[]⟩⟩]].flatten)+_<=b;simp only[AQ,B7,AS,rz_app,rz,iz];have :=h.2;show _+uz s.rises 16<=b;omega
theorem kdrop_k{b:Int}{s:G_}{n:Bs}(h:KOk b s):KOk b (Bg_ s n).1:=by
 unfold Bg_ lt;let Q:G_×Int->Prop:=λr=>KOk b r.1;refine bt (P:=Q) (λ_=>h) λe=>⟨h.1,?_⟩;simp only[decide_eq_false_iff_not] at e;have e1:(I_ s n+1).toNat=(I_ s n).toNat+1:=by omega
 show rz ([(s.rows.take (I_ s n).toNat),(s.rows.drop (I_ s n+1).toNat)].flatten)+uz s.rises 16<=b;rw[e1];simp only[AQ,B7,AS];have :=rz_cut s.rows (I_ s n).toNat;have :=h.2;omega
theorem klend_k{b:Int}{s:G_}{n:Bs}(h:KOk b s):KOk b (Cb_ s n).1:=by
 unfold Cb_ lt;let Q:G_×F_×Bool->Prop:=λr=>KOk b r.1;exact bt (P:=Q) (λ_=>h) λ_=>kwith_k h (GR llend_iz)
theorem krem_k{b:Int}{s:G_}{n:Bs}{id:Int}(h:KOk b s):KOk b (Ab_ s n id).1:=by
 unfold Ab_ lt;let Q:G_×F_×Int->Prop:=λr=>KOk b r.1;exact bt (P:=Q) (λ_=>h) λ_=>kwith_k h lrem_iz
theorem iz_set2{l:List F_}{k:Nat}{a b c d:Bool}:iz ((l.set k ⟨(gt l k).P_,a,b⟩).set k ⟨(gt (l.set k ⟨(gt l k).P_,a,b⟩) k).P_,c,d⟩)=iz l:=
 (iz_set (l.set k ⟨(gt l k).P_,a,b⟩) k ⟨(gt (l.set k ⟨(gt l k).P_,a,b⟩) k).P_,c,d⟩ Y).trans (iz_set l k ⟨(gt l k).P_,a,b⟩ Y)
theorem lback_iz{l:Ar_}{id:Int}:iz (Ea_ l id).1.items=iz l.items:=by
 unfold Ea_ lt;let Q:Ar_×Int->Prop:=λr=>iz r.1.items=iz l.items;exact bt (P:=Q) (λ_=>rfl) λ_=>bt (P:=Q) (λ_=>rfl) λ_=>iz_set2
theorem Yn_:∀ (t:List F_) (k:Nat) (x:Ar_),iz (Ch_ t k x).items=iz x.items
 |[],k,x=>rfl
 |y::t,k,x=>by
   unfold Ch_
   let Q:Ar_->Prop:=λr=>iz r.items=iz x.items
   exact bt (P:=Q) (λ_=>(Yn_ t _ _).trans iz_set2) λ_=>Yn_ t _ _
theorem lwake_iz(l:Ar_):iz (Ec_ l).items=iz l.items:=Yn_ _ _ _
theorem kback_k{b:Int}{s:G_}{n:Bs}{id:Int}(h:KOk b s):KOk b (Bz_ s n id).1:=by
 unfold Bz_ lt;let Q:G_×Int->Prop:=λr=>KOk b r.1;exact bt (P:=Q) (λ_=>h) λ_=>kwith_k h (GR lback_iz)
theorem kraise_k{b:Int}{s:G_}{p:Int}{m:Mail}(h:KOk b s):KOk b (Ba_ s p m).1:=by
 unfold Ba_ lt;let Q:G_×Int->Prop:=λr=>KOk b r.1;refine bt (P:=Q) (λ_=>h) λe1=>?_;simp only[AY,decide_eq_false_iff_not] at e1;refine bt (P:=Q) (λ_=>h) λ_=>bt (P:=Q) (λ_=>h) λe=>⟨h.1,?_⟩;simp only[decide_eq_false_iff_not] at e;rw[Pm_] at e;have h1:=h.1;show rz s.rows+uz (A16.set s.rises _ p.toNat) 16<=b;rw[uz_set _ _ _ qX 16 qX qX];omega
theorem kwake_k0{b:Int}:∀ (t:List Fe_) (k:Nat) (x:G_),KOk b x->(∀ i,i<t.length->gt x.rows (k+i)=gt t i)->KOk b (B7_ t k x)
 |[],k,x,h,_=>h
 |y::t,k,x,h,hr=>by
   unfold B7_ lt
   have h0:gt x.rows k=y:=hr 0 pC
   refine kwake_k0 t (k+1) _ (kwith_k h (by rw[lwake_iz];rw[A7,h0];exact BM _)) λi hi=>?_
   show gt (x.rows.set ((k:Int)).toNat _) (k+1+i)=_
   rw[A7]
   have :gt (x.rows.set k ⟨(gt x.rows k).q,Ec_ y.l⟩) (k+1+i)=gt x.rows (k+1+i):=by
     simp only[gt,AB]
     rw[CD qX]
   rw[this,show k+1+i=k+(i+1) by omega,hr (i+1) pL]
   simp[gt]
theorem kwake_k{b:Int}{s:G_}(h:KOk b s):KOk b (Da_ s):=kwake_k0 s.rows 0 s h λi _=>by rw[B9]
theorem lrem_eq{l:Ar_}(h:LnOk l){k:Nat}(hk:k<l.items.length):iz (Ap_ l (gt l.items k).P_.id).1.items+Ca_ (gt l.items k).P_=iz l.items:=by
 unfold Ap_ lt;dsimp only;rw[lof_self h hk];have e:decide ((k:Int)<0)=false:=by simp
 rw[e,cond_false];show iz ([(l.items.take ((k:Int)).toNat),(l.items.drop ((k:Int)+1).toNat)].flatten)+_=_;rw[show ((k:Int)+1).toNat=k+1 by omega,A7];simp only[AQ,B7,AS]
 conv=>rhs;rw[<- AL k l.items]
 rw[iz_app,iz_app];have e2:l.items.drop k=gt l.items k::l.items.drop (k+1):=by
   rw[CN hk]
   simp[gt,hk]
 rw[e2];simp only[iz];omega
theorem ladd_iz{l:Ar_}{m:Mail}(e:(Ax_ l m).2=0):iz (Ax_ l m).1.items=iz l.items+Ca_ m:=by
 revert e
 unfold Ax_ Dq_ lt;dsimp only;let Q:Ar_×Int->Prop:=λr=>r.2=0->iz r.1.items=iz l.items+Ca_ m;refine bt (P:=Q) (λe h=>?_) λ_ _=>?_;exact sF;show iz ([l.items,[Cm_ ⟨m,false,false⟩]].flatten)=_;simp only[AQ,B7,AS,iz_app,iz];rw[show (Cm_ ⟨m,false,false⟩).P_=m from rfl];omega
theorem zsize:Ca_ ⟨0,[],[],[],[],0,0⟩=0:=by decide +kernel
theorem kput_k{b:Int}{s:G_}{n:Bs}{m:Mail}(hs:StkOk s)(h:KOk b s):KOk b (A6_ s n m).1:=by
 unfold A6_ lt;let Q:G_×Int×Mail×Int->Prop:=λr=>KOk b r.1;refine bt (P:=Q) (λ_=>h) λe=>bt (P:=Q) (λ_=>h) λ_=>bt (P:=Q) (λ_=>h) λ_=>?_;simp only[decide_eq_false_iff_not] at e;have hb:=at_b s n;obtain⟨k,hk⟩:∃ k:Nat,I_ s n=k:=⟨_,(BD qX).symm⟩;rw[hk] at hb ⊢;simp only[A7];have hl:LnOk (gt s.rows k).l:=RwsOk.at hs.1 (getG qX);refine lp2E (P:=Q) (λq=>iz q.1.items+Ca_ q.2=iz (gt s.rows k).l.items) ?_ λx x1 hx=>?_;refine bt (P:=LoP _ _) (λ_=>?_) λ_=>by show iz (gt s.rows k).l.items+Ca_ ⟨0,[],[],[],[],0,0⟩=_;rw[zsize];omega
 refine bt (P:=LoP _ _) (λ_=>h) λe2=>?_;have⟨j,hj,he⟩:=Yb_ (l:=(gt s.rows k).l) (by simpa using e2);show iz _+Ca_ _=_;rw[he];exact lrem_eq hl hj;refine bt (P:=Q) (λ_=>h) λe3=>bt (P:=Q) (λ_=>h) λe4=>⟨h.1,?_⟩;simp only[decide_eq_false_iff_not] at e3;have e4':(Ax_ x ⟨s.next,m.Al_,m.key,m.head,m.body,m.due,m.hops⟩).2=0:=by simpa using e4
 have h4:=ladd_iz e4';unfold C3_ at e3;rw[Pm_] at e3;have h1:=h.1;have hx':iz x.items+Ca_ x1=iz (gt s.rows k).l.items:=hx;show rz (s.rows.set ((k:Int)).toNat _)+uz s.rises 16<=b;rw[A7,rz_set _ _ _ qX];dsimp only;omega
theorem fsz1{k:G_}(hw:KW k):∀ (f:Nat) (n:Int) (v:Nat),Lp_ (fK k) f n v=Ct_ k f n v
 |0,_,_=>rfl
 |f+1,n,v=>by
   unfold Lp_ Ct_ lt
   by_cases hv:v<16
   . have e:decide ((v:Int)<16)=true:=decide_eq_true qX
     rw[e,cond_true,cond_true]
     have :N7_ (A16.get (fK k).rises v)=Cl_ (A16.get k.rises v):=usz_eq0 _ _ (hw.2 v hv)
     rw[this]
     exact fsz1 hw f _ _
   . have e:decide ((v:Int)<16)=false:=decide_eq_false qX
     rw[e,cond_false,cond_false]
theorem fsz0{k:G_}(hw:KW k):∀ (l:List Fe_) (n:Int),(∀ r∈l,LW r.l.items)->J8_ (fK k) (l.map fRow) n=B6_ k l n
 |[],n,_=>fsz1 hw _ _ _
 |r::l,n,hl=>by
   rw[AG]
   unfold J8_ B6_ lt
   have :N6_ (fRow r).l=E2_ r.l:=lsz_eq0 _ _ (hl r pC)
   rw[this]
   exact fsz0 hw l _ λq hq=>hl q oA
theorem fsz{k:G_}(hw:KW k):K0_ (fK k)=A7_ k:=fsz0 hw k.rows 0 λr hr=>hw.1 r hr
theorem wake0':∀ (t:List Fe_) (i:Nat) (x:G_),x.rows.drop i=t->J9_ (t.map fRow) i (fK x)=fK (B7_ t i x)
 |[],_,_,_=>rfl
 |y::t,i,x,h=>by
   have hk:i<x.rows.length:=by
     rcases EW i x.rows.length with q|q
     . exact q
     . rw[List.drop_eq_nil_iff.2 q] at h;cases h
   have hd:=CN hk
   rw[hd] at h
   have⟨h1,h2⟩:=List.cons.inj h
   have hg:gt x.rows i=y:=by simp[gt,hk,h1]
   rw[AG]
   unfold J9_ B7_ lt
   dsimp only
   rw[gt_f hk,hg,show (fRow y).l=y.l.items from rfl,r18wake,Zf_ hk]
   refine wake0' t (i+1) _ ?_
   show (x.rows.set ((i:Int)).toNat _).drop (i+1)=t
   rw[A7,DE qX]
   exact h2
theorem r21wake{k:G_}:Py_ (fK k)=fK (Da_ k):=wake0' k.rows 0 k pC
theorem rput_mem{x:Az_}{m y:Mail}(h:y∈(Bw_ x m).1.kept):y∈x.kept\/y=m:=by
 revert h
 unfold Bw_;let R:Az_×Int->Prop:=λr=>y∈r.1.kept->y∈x.kept\/y=m;refine bt (P:=R) (λ_ h=> .inl h) λ_=>bt (P:=R) (λ_ h=> .inl h) λ_=>λh=>?_
 rcases Pr_ (AP h) with q|q
 exact .inl q;exact .inr q
theorem kw_set{k:G_}(h:KW k){x:Az_}(hx:∀ m∈x.kept,Wm m){i:Nat}(hi:i<16):KW ⟨k.next,k.bytes,k.rows,A16.set k.rises x i⟩:=by
 refine⟨h.1,λj hj m hm=>?_⟩;have hm:m∈(A16.get (A16.set k.rises x i) j).kept:=hm;rw[A16.get_set _ _ _ _ hi hj] at hm;by_cases q:j=i;rw[if_pos q] at hm;exact hx m hm;rw[if_neg q] at hm;exact h.2 j hj m hm
theorem r21raise{k:G_}{p:Int}{m:Mail}(h:StkOk k)(hw:KW k)(hm:Wm m):Jr_ (fK k) p m=(fK (Ba_ k p m).1,(Ba_ k p m).2):=by
 unfold Jr_ Ba_ lt;dsimp only;have e0:decide (15<p) = decide (16<=p):=by
   by_cases q:16<=p
   . exact tJ
   . exact tH
 rw[e0]
 cases e:((decide (p<0))||(decide (16<=p))) with
 |true=>rfl
 |false=>
   simp only[AY,decide_eq_false_iff_not] at e
   simp only[cond_false]
   have hi:p.toNat<16:=by omega
   have hr:Kz_ (A16.get (fK k).rises p.toNat) m=Bw_ (A16.get k.rises p.toNat) m:=r20put (h.2.1 _ hi).1
   rw[hr]
   generalize hx:Bw_ (A16.get k.rises p.toNat) m=x
   by_cases q:x.2=0
   . rw[decide_eq_true q]
     simp only[A5,cond_false]
     have hkw:KW ⟨k.next,k.bytes,k.rows,A16.set k.rises x.1 p.toNat⟩:=kw_set hw (λy hy=>by
       rw[<- hx] at hy
       rcases rput_mem hy with q|q
       . exact hw.2 _ hi y q
       . rw[q];exact hm) hi
     have hs:K0_ (⟨(fK k).next,(fK k).most,(fK k).rows,A16.set (fK k).rises x.1 p.toNat⟩:Ac_)=A7_ ⟨k.next,k.bytes,k.rows,A16.set k.rises x.1 p.toNat⟩:=fsz hkw
     have hz:A7_ ⟨k.next,k.bytes,k.rows,A16.set k.rises x.1 p.toNat⟩=A7_ k-Cl_ (A16.get k.rises p.toNat)+Cl_ x.1:=by
       rw[Pm_,Pm_]
       dsimp only
       rw[uz_set _ _ _ hi 16 qX qX]
       omega
     rw[hs,hz]
     show (bif decide (k.bytes<_) then _ else _)=_
     cases decide (k.bytes<A7_ k-Cl_ (A16.get k.rises p.toNat)+Cl_ x.1)<;>rfl
   . rw[decide_eq_false q];rfl
theorem zsz:Ca_ ⟨0,[],[],[],[],0,0⟩=0:=zsize
theorem add_0{l:Ar_}{m:Mail}(h1:D6_ m=0)(h2:∀ x∈l.items,x.P_.id<m.id)(h3:l.items.length<64):(Ax_ l m).2=0:=by
 have hc:Eo_ l m=0:=by
   unfold Eo_
   rw[h1,decide_eq_true rfl]
   have e:((decide (0<(l.items.length:Int)))&&(decide (m.id<=((gt l.items ((((l.items.length:Int)-1)).toNat)).P_.id))))=false:=by
     by_cases q:0<l.items.length
     . have :=h2 _ (Gw_ (xs:=l.items) (k:=((l.items.length:Int)-1).toNat) qX)
       rw[decide_eq_false (show ¬m.id<=(gt l.items ((l.items.length:Int)-1).toNat).P_.id by omega),G8]
     . rw[decide_eq_false (show ¬(0:Int)<l.items.length by omega),B6]
   rw[e,decide_eq_false (show ¬(64:Int)<=l.items.length by omega)]
   rfl
 unfold Ax_ Dq_ lt;dsimp only;rw[hc];rfl
theorem add_items{l:Ar_}{m:Mail}{x:F_}(h:x∈(Ax_ l m).1.items):x∈l.items\/x.P_=m:=by
 revert h
 unfold Ax_ Dq_ lt;dsimp only;let R:Ar_×Int->Prop:=λr=>x∈r.1.items->x∈l.items\/x.P_=m;refine bt (P:=R) (λ_ h=> .inl h) λ_=>λh=>?_
 rcases Pr_ h with q|q
 exact .inl q;exact .inr (by rw[q];rfl)
theorem rem_items{l:Ar_}{id:Int}{x:F_}(h:x∈(Ap_ l id).1.items):x∈l.items:=by
 revert h
 unfold Ap_ lt;dsimp only;let R:Ar_×F_×Int->Prop:=λr=>x∈r.1.items->x∈l.items;exact bt (P:=R) (λ_ h=>h) λ_=>λh=>mem_td h
theorem r21put{k:G_}{n:Bs}{m:Mail}(h:StkOk k)(hq:RoB k)(hg:KG k)(hm:Wf m):S9_ (fK k) n m=(fK (A6_ k n m).1,(A6_ k n m).2):=by
 have hw:=kw_of hg;unfold S9_ A6_ lt lt1;dsimp only;rw[Oi_]
 rcases at_c k n with e|⟨i,e,hi⟩
 exact tI;rw[e,decide_eq_false (show ¬(i:Int)<0 by omega)];simp only[cond_false,decide_true,cond_true,A7];by_cases e2:D6_ m=0;rw[decide_eq_true e2];simp only[AW,A5,cond_false];by_cases e3:k.next = 0;simp only[show decide ((fK k).next = 0)=true from decide_eq_true e3,decide_eq_true e3];rfl;simp only[show decide ((fK k).next = 0)=false from decide_eq_false e3,decide_eq_false e3,cond_false,e2,decide_true,A5];simp only[gt_f hi];obtain⟨row,hrow⟩:∃ row,gt k.rows i=row:=⟨_,rfl⟩;have hmem:row∈k.rows:=hrow ▸ Gw_ hi;have hln:LnOk row.l:=h.1.2.1 row hmem;have hrg:=hg.2.1 row hmem;have hqc:=hq row hmem;have hqm:=(Pu_ hqc).2.2;have h64:=hln.1;simp only[hrow];have hw2:A0 .u64 (Ej_ row.l)=(row.l.items.length:Int):=Cp_ (show (0:Int)<=(row.l.items.length:Int) by omega) (show (row.l.items.length:Int)<=_ by omega);simp only[hw2,show (fRow row).q=row.q from rfl,show (fRow row).l=row.l.items from rfl,r18first];have key:∀ (l:Ar_) (x:Mail),LnOk l->(∀ y∈l.items,y∈row.l.items)->l.items.length<64->iz l.items+Ca_ x=iz row.l.items ->
     (bif !decide ((bif decide ((fK k).most<K0_ (⟨IntKind.wrap .u64 ((fK k).next + 1),(Ex_ (fK k) (i:Int) (Ie_ l.items (⟨(fK k).next,m.Al_,m.key,m.head,m.body,m.due,m.hops⟩:Mail)).1).most,(Ex_ (fK k) (i:Int) (Ie_ l.items (⟨(fK k).next,m.Al_,m.key,m.head,m.body,m.due,m.hops⟩:Mail)).1).rows,(Ex_ (fK k) (i:Int) (Ie_ l.items (⟨(fK k).next,m.Al_,m.key,m.head,m.body,m.due,m.hops⟩:Mail)).1).rises⟩:Ac_)) then 12 else (Ie_ l.items (⟨(fK k).next,m.Al_,m.key,m.head,m.body,m.due,m.hops⟩:Mail)).2)=0) then
       (fK k,(0:Int),aK,(bif decide ((fK k).most<K0_ (⟨IntKind.wrap .u64 ((fK k).next + 1),(Ex_ (fK k) (i:Int) (Ie_ l.items (⟨(fK k).next,m.Al_,m.key,m.head,m.body,m.due,m.hops⟩:Mail)).1).most,(Ex_ (fK k) (i:Int) (Ie_ l.items (⟨(fK k).next,m.Al_,m.key,m.head,m.body,m.due,m.hops⟩:Mail)).1).rows,(Ex_ (fK k) (i:Int) (Ie_ l.items (⟨(fK k).next,m.Al_,m.key,m.head,m.body,m.due,m.hops⟩:Mail)).1).rises⟩:Ac_)) then 12 else (Ie_ l.items (⟨(fK k).next,m.Al_,m.key,m.head,m.body,m.due,m.hops⟩:Mail)).2))
     else ((⟨IntKind.wrap .u64 ((fK k).next + 1),(Ex_ (fK k) (i:Int) (Ie_ l.items (⟨(fK k).next,m.Al_,m.key,m.head,m.body,m.due,m.hops⟩:Mail)).1).most,(Ex_ (fK k) (i:Int) (Ie_ l.items (⟨(fK k).next,m.Al_,m.key,m.head,m.body,m.due,m.hops⟩:Mail)).1).rows,(Ex_ (fK k) (i:Int) (Ie_ l.items (⟨(fK k).next,m.Al_,m.key,m.head,m.body,m.due,m.hops⟩:Mail)).1).rises⟩:Ac_),(fK k).next,x,0)) =
     (λr:G_×Int×Mail×Int=>(fK r.1,r.2)) (bif decide (C3_ k+Ca_ x<Ca_ (⟨k.next,m.Al_,m.key,m.head,m.body,m.due,m.hops⟩:Mail)) then
       (k,0,aK,12)
     else bif !decide ((Ax_ l (⟨k.next,m.Al_,m.key,m.head,m.body,m.due,m.hops⟩:Mail)).2=0) then
       (k,0,aK,(Ax_ l (⟨k.next,m.Al_,m.key,m.head,m.body,m.due,m.hops⟩:Mail)).2)
     else (⟨IntKind.wrap .u64 ((W_ k (i:Int) (Ax_ l (⟨k.next,m.Al_,m.key,m.head,m.body,m.due,m.hops⟩:Mail)).1).next + 1),(W_ k (i:Int) (Ax_ l (⟨k.next,m.Al_,m.key,m.head,m.body,m.due,m.hops⟩:Mail)).1).bytes,(W_ k (i:Int) (Ax_ l (⟨k.next,m.Al_,m.key,m.head,m.body,m.due,m.hops⟩:Mail)).1).rows,(W_ k (i:Int) (Ax_ l (⟨k.next,m.Al_,m.key,m.head,m.body,m.due,m.hops⟩:Mail)).1).rises⟩,k.next,x,0)):=by
   intro l x hl hsub h64' hiz
   have en:(fK k).next = k.next :=rfl
   rw[en]
   generalize hm':(⟨k.next,m.Al_,m.key,m.head,m.body,m.due,m.hops⟩:Mail)=m'
   have hid:m'.id=k.next :=by rw[<- hm']
   have ha:=add_0 (l:=l) (m:=m') (by rw [<- hm',mailC_id];exact e2) (λy hy=>by
     have :=(hrg.2.2.2 y (hsub y hy)).2
     rw[hid];omega) h64'
   have hadd:=r18add (l:=l.items) (m:=m') hl.2.2
   rw[hadd,Zf_ hi]
   have e5:(Ax_ ⟨l.items⟩ m')=Ax_ l m':=rfl
   rw[e5]
   generalize hL:Ax_ l m'=r3 at ha ⊢
   have hkw:KW ⟨IntKind.wrap .u64 (k.next + 1),k.bytes,(W_ k (i:Int) r3.1).rows,k.rises⟩:=by
     refine⟨λr hr=>?_,hw.2⟩
     rcases BL (show r∈k.rows.set ((i:Int)).toNat _ from hr) with q|q
     . exact hw.1 r q
     . rw[q]
       intro y hy
       have hy:y∈r3.1.items:=hy
       rw[<- hL] at hy
       rcases add_items hy with q2|q2
       . exact hw.1 row hmem y (hsub y q2)
       . rw[q2,<- hm'];exact hm.2
   have hs:K0_ (⟨IntKind.wrap .u64 (k.next + 1),(fK (W_ k (i:Int) r3.1)).most,(fK (W_ k (i:Int) r3.1)).rows,(fK (W_ k (i:Int) r3.1)).rises⟩:Ac_)=A7_ ⟨IntKind.wrap .u64 (k.next + 1),k.bytes,(W_ k (i:Int) r3.1).rows,k.rises⟩:=fsz hkw
   have hz:A7_ ⟨IntKind.wrap .u64 (k.next + 1),k.bytes,(W_ k (i:Int) r3.1).rows,k.rises⟩=A7_ k-Ca_ x+Ca_ m':=by
     rw[Pm_,Pm_]
     show rz (k.rows.set ((i:Int)).toNat _)+_=_
     rw[A7,rz_set _ _ _ hi,hrow]
     have :iz r3.1.items=iz l.items+Ca_ m':=by rw[<- hL];exact ladd_iz (by rw[hL];exact ha)
     dsimp only
     omega
   rw[hs,hz,ha]
   have hd:decide ((fK k).most<A7_ k-Ca_ x+Ca_ m') = decide (C3_ k+Ca_ x<Ca_ m'):=by
     show decide (k.bytes<_)=_
     unfold C3_
     by_cases q:k.bytes-A7_ k+Ca_ x<Ca_ m'
     . exact tJ
     . exact tH
   rw[hd]
   cases decide (C3_ k+Ca_ x<Ca_ m')<;>rfl
 by_cases c:row.q.most<=(row.l.items.length:Int);rw[decide_eq_true c];simp only[cond_true];by_cases c2:(Au_ row.l).2=true;rw[show Au_ ⟨row.l.items⟩=Au_ row.l from rfl,c2];simp only[A5,cond_false];rw[r18remove];have⟨j,hj,he⟩:=Yb_ c2;have hrem:=Ru_ (id:=(Au_ row.l).1.id) hln;have hz:=lrem_eq hln hj;rw[<- he] at hz;refine key (Ap_ row.l (Au_ row.l).1.id).1 (Au_ row.l).1 hrem.1 (λy hy=>rem_items hy) ?_ hz;have h3:=(lg_rem hrg.2.2 (Au_ row.l).1.id).2.2 (first_of c2);omega;rw[show Au_ ⟨row.l.items⟩=Au_ row.l from rfl];have :(Au_ row.l).2=false:=by simpa using c2
 rw[this];rfl;rw[decide_eq_false c];simp only[cond_false];refine key row.l ⟨0,[],[],[],[],0,0⟩ hln (λy hy=>hy) ?_ (by rw[zsz];omega);omega;rw[decide_eq_false e2];have e3:(decide (D6_ m=0) && decide ((fK k).next = 0))=false:=by rw[decide_eq_false e2];rfl
 simp only[B6,cond_false,AT,cond_true];rw[decide_eq_false e2];rfl
def StepM(k:List Bs)(may:List Bool)(y:Bs)(j:Nat)(next N:List Bool):Prop:=
 N.length=k.length+1/\(∀ i,i<j->gt N i=gt next i)/\∀ i,j<=i->i<=k.length->gt N i =
   if y=[35] then (gt may i||(decide (0<i)&&gt N (i-1))) else if 0<i then (gt may (i-1)&&(decide (y=[42]) || decide (y=gt k (i-1)))) else gt next i
theorem Xj_{α:Type}[Inhabited α]{xs:List α}{k i:Nat}{y:α}(h:k<xs.length):gt (xs.set k y) i = if i=k then y else gt xs i:=by
 by_cases e:i=k;subst e;rw[if_pos rfl];simp[gt,h];rw[if_neg e];simp only[gt,AB];rw[CD (λq=>e q.symm)]
theorem m1(k:List Bs)(may:List Bool)(y:Bs):∀ (f j:Nat) (next :List Bool),next.length=k.length+1->k.length+1<f+j->j<=k.length+1->StepM k may y j next (Ef_ k may y f next (j:Int))
 |0,j,next,_,h,h2=>by omega
 |f+1,j,next,hl,hf,hj=>by
   unfold Ef_
   by_cases q:j<=k.length
   . have e:decide ((j:Int)<=(k.length:Int))=true:=decide_eq_true qX
     rw[e,cond_true]
     have en:((j:Int)).toNat=j:=by omega
     have ej:(j:Int)+1=((j+1:Nat):Int):=by omega
     have em:((j:Int)-1).toNat=j-1:=by omega
     rw[en,ej,em]
     have key:∀ (v:Bool),v=(if y=[35] then (gt may j||(decide (0<j)&&gt next (j-1))) else if 0<j then (gt may (j-1)&&(decide (y=[42]) || decide (y=gt k (j-1)))) else gt next j)->StepM k may y j next (Ef_ k may y f (next.set j v) ((j+1:Nat):Int)):=by
       intro v hv
       have⟨h1,h2,h3⟩:=m1 k may y f (j+1) (next.set j v) (by rw[BC];exact hl) qX qX
       generalize Ef_ k may y f (next.set j v) ((j+1:Nat):Int)=N at h1 h2 h3 ⊢
       refine⟨h1,λi hi=>?_,λi hi hk=>?_⟩
       . rw[h2 i qX,Xj_ qX,if_neg qX]
       . by_cases q2:i=j
         . subst q2
           rw[h2 i qX,Xj_ qX,if_pos rfl,hv]
           by_cases q3:y=[35]
           . rw[if_pos q3,if_pos q3]
             by_cases q4:0<i
             . rw[h2 (i-1) qX,Xj_ qX,if_neg qX]
             . rw[decide_eq_false q4];simp
           . rw[if_neg q3,if_neg q3]
         . rw[h3 i qX hk]
           by_cases q3:y=[35]
           . rw[if_pos q3,if_pos q3]
           . rw[if_neg q3,if_neg q3]
             by_cases q4:0<i
             . rw[if_pos q4,if_pos q4]
             . omega
     have same:next.set j (gt next j) = next :=by
       apply List.ext_getElem?
       intro i
       by_cases q2:i=j
       . subst q2
         rw[List.getElem?_set_self qX]
         rw[getG (xs:=next) (k:=i) qX]
       . rw[CD (λe=>q2 e.symm)]
     by_cases q2:y=[35]
     . rw[decide_eq_true q2,cond_true]
       cases q3:gt may j with
       |true=>rw[cond_true];exact key true (by rw[if_pos q2,q3];rfl)
       |false=>
         rw[cond_false]
         by_cases q4:0<j
         . rw[decide_eq_true (show (0:Int)<(j:Int) by omega),cond_true]
           exact key _ (by rw[if_pos q2,q3,decide_eq_true q4];rfl)
         . rw[decide_eq_false (show ¬(0:Int)<(j:Int) by omega),cond_false]
           exact key _ (by rw[if_pos q2,q3,decide_eq_false q4];rfl)
     . rw[decide_eq_false q2,cond_false]
       by_cases q4:0<j
       . rw[decide_eq_true (show (0:Int)<(j:Int) by omega),cond_true]
         exact key _ (by rw[if_neg q2,if_pos q4])
       . rw[decide_eq_false (show ¬(0:Int)<(j:Int) by omega),cond_false]
         have :=key (gt next j) (by rw[if_neg q2,if_neg q4])
         rw[same] at this
         exact this
   . have e:decide ((j:Int)<=(k.length:Int))=false:=decide_eq_false qX
     rw[e,cond_false]
     exact⟨hl,λ_ _=>rfl,λi h1 h2=>by omega⟩
def AnyM(p k:List Bs)(may:List Bool):Prop:=∃ j,j<=k.length/\gt may j=true/\mt p (k.drop j)=true
theorem Ws_{may N:List Bool}{n:Nat}(h:∀ i,i<=n->gt N i=(gt may i||(decide (0<i)&&gt N (i-1)))):∀ i,i<=n->(gt N i=true↔∃ j,j<=i/\gt may j=true)
 |0,hi=>by
   rw[h 0 hi]
   constructor
   . intro q;exact⟨0,AX 0,by simpa using q⟩
   . rintro⟨j,hj,q⟩
     have :j=0:=by omega
     subst this;simp[q]
 |i+1,hi=>by
   rw[h (i+1) hi]
   have ih:=Ws_ h i qX
   simp only[FY,A3,decide_eq_true_eq,FO]
   constructor
   . rintro (q|⟨_,q⟩)
     . exact⟨i+1,AX _,q⟩
     . have⟨j,hj,q2⟩:=ih.1 q
       exact⟨j,by omega,q2⟩
   . rintro⟨j,hj,q⟩
     by_cases e:j=i+1
     . exact .inl (e ▸ q)
     . exact .inr ⟨by omega,ih.2 ⟨j,by omega,q⟩⟩
theorem m0(k:List Bs):∀ (p:List Bs) (may:List Bool),may.length=k.length+1->(F1_ k p may=true↔AnyM p k may)
 |[],may,hl=>by
   unfold F1_
   constructor
   . intro h;exact⟨k.length,AX _,h,by rw[FU];rfl⟩
   . rintro⟨j,hj,h1,h2⟩
     have :(k.drop j).isEmpty=true:=h2
     rw[List.isEmpty_iff,D8] at this
     have :j=k.length:=by omega
     rw[<- this];exact h1
 |w::p,may,hl=>by
   unfold F1_ lt1
   have⟨h1,_,h3⟩:=m1 k may w (k.length+1-((0:Int)).toNat+1) 0 (AJ (k.length+1) false) pC qX qX
   have e0:((0:Nat):Int)=0:=rfl
   rw[e0] at h1 h3
   generalize Ef_ k may w (k.length+1-((0:Int)).toNat+1) (AJ (k.length+1) false) 0=N at h1 h3 ⊢
   rw[m0 k p N h1]
   by_cases q:w=[35]
   . subst q
     have h4:∀ i,i<=k.length->gt N i=(gt may i||(decide (0<i)&&gt N (i-1))):=λi hi=>by
       have :=h3 i qX hi
       rwa [if_pos Y] at this
     constructor
     . rintro⟨j,hj,g1,g2⟩
       have⟨i,hi,g3⟩:=(Ws_ h4 j hj).1 g1
       refine⟨i,by omega,g3,Vq_.2 ⟨j-i,?_⟩⟩
       rw[BZ,show i+(j-i)=j by omega];exact g2
     . rintro⟨i,hi,g1,g2⟩
       have⟨f,g3⟩:=Vq_.1 g2
       rw[BZ] at g3
       by_cases q2:i+f<=k.length
       . exact⟨i+f,q2,(Ws_ h4 _ q2).2 ⟨i,by omega,g1⟩,g3⟩
       . refine⟨k.length,AX _,(Ws_ h4 _ (AX _)).2 ⟨i,hi,g1⟩,?_⟩
         rw[A9 qX] at g3
         rw[FU];exact g3
   . have h4:∀ i,i<=k.length->gt N i = if 0<i then (gt may (i-1)&&(decide (w=[42]) || decide (w=gt k (i-1)))) else false:=λi hi=>by
       have :=h3 i qX hi
       rw[if_neg q] at this
       rw[this]
       by_cases q2:0<i
       . rw[if_pos q2,if_pos q2]
       . rw[if_neg q2,if_neg q2]
         have :i=0:=by omega
         subst this
         simp[gt]
     constructor
     . rintro⟨j,hj,g1,g2⟩
       rw[h4 j hj] at g1
       by_cases q2:0<j
       . rw[if_pos q2] at g1
         simp only[A3,FY,decide_eq_true_eq] at g1
         refine⟨j-1,by omega,g1.1,(Ys_ q).2 ⟨gt k (j-1),k.drop j,?_,g1.2,g2⟩⟩
         have :=S2_ (xs:=k) (k:=j-1) qX
         rw[this,show j-1+1=j by omega]
       . rw[if_neg q2] at g1;cases g1
     . rintro⟨i,hi,g1,g2⟩
       have⟨x,r,g3,g4,g5⟩:=(Ys_ q).1 g2
       have hl2:i<k.length:=by
         rcases EW i k.length with h|h
         . exact h
         . rw[A9 h] at g3;cases g3
       rw[S2_ hl2] at g3
       obtain⟨rfl,rfl⟩:=List.cons.inj g3
       refine⟨i+1,by omega,?_,g5⟩
       rw[h4 (i+1) qX,if_pos qX,FO,g1]
       simpa using g4
theorem r04matches(p k:List Bs):Lj_ p k=mt p k:=by
 unfold Lj_;have h:=m0 k p ((AJ (k.length+1) false).set 0 true) pC;have h2:AnyM p k ((AJ (k.length+1) false).set 0 true)↔mt p k=true:=by
   constructor
   . rintro⟨j,hj,g1,g2⟩
     rw[Xj_ pC] at g1
     by_cases q:j=0
     . subst q;exact g2
     . rw[if_neg q] at g1
       have :gt (AJ (k.length+1) false) j=false:=by
         simp only[gt,AB,List.getElem?_replicate]
         split<;>rfl
       rw[this] at g1;cases g1
   . intro g
     exact⟨0,by omega,by rw[Xj_ pC,if_pos rfl],g⟩
 rw[h2] at h
 cases e1:F1_ k p ((AJ (k.length+1) false).set 0 true) with
 |true=>exact (h.1 e1).symm
 |false=>
   cases e2:mt p k with
   |true=>rw[h.2 e2] at e1;cases e1
   |false=>rfl
def Sm_(s:X_):T_:=(⟨0,0,s,aO,aS,[],0,0,0,0,0,aK,[]⟩:T_)
def Om_(b:R_):T_:=(⟨4,0,aR,aO,b,[],0,0,0,0,0,aK,[]⟩:T_)
theorem irs_fwd(text:Bs)(p:H_)(k:Int){rest:Bs}(t:List X_):∀ (f:Nat) (ds:List T_),t.length<f->t.length<=255->(∀ s∈t,Kh_ s=0/\0<=s.sort)->Fg_ text p k f (t.length:Int) ⟨t.flatMap Te_++rest,0⟩ ds=Fg_ text p k 1 0 ⟨rest,0⟩ (ds++t.map Sm_):=by
 induction t with
 |nil=>
   intro f ds hf _ _
   obtain⟨g,rfl⟩:∃ g,f=g+1:=⟨f-1,by omega⟩
   rw[Fg_.eq_2,Fg_.eq_2]
   grind
 |cons s t ih=>
   intro f ds hf hl h
   obtain⟨g,rfl⟩:∃ g,f=g+1:=⟨f-1,by omega⟩
   simp only[A2] at hf hl
   have⟨h1,h2⟩:=h s pC
   have h3:=Vx_ h1
   have e1:Ag_ ⟨(s::t).flatMap Te_++rest,0⟩ 16=(s.name,⟨numB 1 s.sort.toNat++(txtB s.to'++(t.flatMap Te_++rest)),0⟩):=by
     rw[BI,Te_]
     exact sK
   have e2:Ah_ ⟨numB 1 s.sort.toNat++(txtB s.to'++(t.flatMap Te_++rest)),0⟩ 1=(s.sort,⟨txtB s.to'++(t.flatMap Te_++rest),0⟩):=My_ h2 qX
   have e3:Ag_ ⟨txtB s.to'++(t.flatMap Te_++rest),0⟩ 16=(s.to',⟨t.flatMap Te_++rest,0⟩):=Ok_
   rw[Fg_.eq_2]
   have e:decide (0<(((s::t).length:Nat):Int))=true:=decide_eq_true nG
   rw[e]
   simp only[decide_true,BS,cond_true]
   rw[lt,e1,lt,e2,lt,e3]
   have hw:A0 .u64 ((((s::t).length:Nat):Int)-1)=(t.length:Int):=by
     exact tF
   rw[hw]
   refine (ih g (ds++[Sm_ s]) qX qX (λy hy=>h y pQ)).trans ?_
   grind
theorem irb_step{text:Bs}{p:H_}{k n:Int}{f:Nat}{i:In}{ds:List T_}{r5 r6 r7 r8 r9 r10:_}(hn:0<n)(hi:i.err=0)(e5:Ag_ i 16=r5)(e6:Ag_ r5.2 16=r6)(e7:Ah_ r6.2 1=r7)(e8:Ag_ r7.2 64=r8)(e9:Cd_ r8.2=r9)(e10:Ah_ r9.2 1=r10):Dp_ text p k (f+1) n i ds=Dp_ text p k f (IntKind.wrap .u64 (n-1)) r10.2 (ds++[Om_ ⟨r5.1,r6.1,decide (r7.1=1),r8.1,r9.1,decide (r10.1=1)⟩]):=by
 rw[Dp_.eq_2,decide_eq_true hn,decide_eq_true hi];simp only[BS,cond_true];rw[lt,e5];rw[lt,e6];rw[lt,e7];rw[lt,e8];rw[lt,e9];rw[lt,e10];rfl
theorem bit_one(b:Bool):decide (((bitM b:Nat):Int)=1)=b:=by cases b<;>rfl
theorem irb_nil(text:Bs)(p:H_)(k:Int)(f g:Nat){i:In}(ds:List T_):Dp_ text p k (f+1) 0 i ds=Dp_ text p k (g+1) 0 i ds:=by
 rw[Dp_.eq_2,Dp_.eq_2];grind
theorem irb_fwd(text:Bs)(p:H_)(k:Int){rest:Bs}(t:List R_):∀ (f:Nat) (ds:List T_),t.length<f->t.length<=255->(∀ y∈t,BiB y)->Dp_ text p k f (t.length:Int) ⟨t.flatMap M1_++rest,0⟩ ds=Dp_ text p k 1 0 ⟨rest,0⟩ (ds++t.map Om_):=by
 induction t with
 |nil=>
   intro f ds hf _ _
   obtain⟨g,rfl⟩:∃ g,f=g+1:=⟨f-1,by omega⟩
   rw[DQ,AS]
   exact irb_nil text p k g 0 ds
 |cons y t ih=>
   intro f ds hf hl h
   obtain⟨g,rfl⟩:∃ g,f=g+1:=⟨f-1,by omega⟩
   simp only[A2] at hf hl
   have hy:=h y pC
   have h3:=bib_f hy
   have hb:∀ b:Bool,bitM b<=255:=λb=>by cases b<;>decide
   have e1:Ag_ ⟨(y::t).flatMap M1_++rest,0⟩ 16=(y.Al_,⟨txtB y.to'++(numB 1 (bitM y.up)++(txtB y.key++(Bv_ y.want++(numB 1 (bitM y.all)++(t.flatMap M1_++rest))))),0⟩):=by
     rw[BI,M1_]
     exact sK
   have e2:Ag_ ⟨txtB y.to'++(numB 1 (bitM y.up)++(txtB y.key++(Bv_ y.want++(numB 1 (bitM y.all)++(t.flatMap M1_++rest))))),0⟩ 16=(y.to',⟨numB 1 (bitM y.up)++(txtB y.key++(Bv_ y.want++(numB 1 (bitM y.all)++(t.flatMap M1_++rest)))),0⟩):=Ok_
   have e3:Ah_ ⟨numB 1 (bitM y.up)++(txtB y.key++(Bv_ y.want++(numB 1 (bitM y.all)++(t.flatMap M1_++rest)))),0⟩ 1=(((bitM y.up:Nat):Int),⟨txtB y.key++(Bv_ y.want++(numB 1 (bitM y.all)++(t.flatMap M1_++rest))),0⟩):=Jn_ (hb _)
   have e4:Ag_ ⟨txtB y.key++(Bv_ y.want++(numB 1 (bitM y.all)++(t.flatMap M1_++rest))),0⟩ 64=(y.key,⟨Bv_ y.want++(numB 1 (bitM y.all)++(t.flatMap M1_++rest)),0⟩):=Ok_
   have e5:Cd_ ⟨Bv_ y.want++(numB 1 (bitM y.all)++(t.flatMap M1_++rest)),0⟩=(y.want,⟨numB 1 (bitM y.all)++(t.flatMap M1_++rest),0⟩):=V4_ hy.2.2.2.1 hy.2.2.2.2
   have e6:Ah_ ⟨numB 1 (bitM y.all)++(t.flatMap M1_++rest),0⟩ 1=(((bitM y.all:Nat):Int),⟨t.flatMap M1_++rest,0⟩):=Jn_ (hb _)
   have hw:A0 .u64 ((((y::t).length:Nat):Int)-1)=(t.length:Int):=by
     exact tF
   rw[irb_step (show (0:Int)<(((y::t).length:Nat):Int) by simp only[A2];omega) Y e1 e2 e3 e4 e5 e6,hw]
   simp only[bit_one]
   refine (ih g (ds++[Om_ y]) qX qX (λz hz=>h z pS)).trans ?_
   grind
def sB(a:A16_u64):Nat->Bs
 |0=>[]
 |n+1=>numB 8 (A16.get a (15-n)).toNat++sB a n
theorem is_eq(x:Aq_)(n:Nat):∀ (f:Nat) (o:Out),n<=16->n<f->∃ e,Hn_ x f (16-n) o=Gt_ x (8-0+1) 0 ⟨o.s++sB x.seen n,e⟩:=by
 induction n with
 |zero=>
   intro f o _ hf
   obtain⟨g,rfl⟩:∃ g,f=g+1:=⟨f-1,by omega⟩
   refine⟨o.err,?_⟩
   rw[Hn_]
   have e:decide (((16-0:Nat):Int)<16)=false:=by decide
   rw[e,cond_false]
   simp[sB]
 |succ n ih=>
   intro f o h hf
   obtain⟨g,rfl⟩:∃ g,f=g+1:=⟨f-1,by omega⟩
   have e:decide (((16-(n+1):Nat):Int)<16)=true:=decide_eq_true qX
   have hv:16-(n+1)=15-n:=by omega
   have hv2:16-(n+1)+1=16-n:=by omega
   have⟨w,hw⟩:=ih g (D_ o (A16.get x.seen (15-n)) 8) qX qX
   refine⟨w,?_⟩
   rw[Hn_,e,cond_true,hv2,hv,hw,Mg_,sB]
   simp
theorem ird2_step{text:Bs}{p:H_}{k:Int}{ds:List T_}{q:G_×Int}{f v:Nat}{i:In}{x:Aq_}{r:Int×In}(hv:(v:Int)<16)(e:Ah_ i 8=r):Fh_ text p k ds q (f+1) v i x=Fh_ text p k ds q f (v+1) r.2 ⟨x.book,x.C_,x.notes,A16.set x.seen r.1 v,x.spent⟩:=by
 rw[Fh_,decide_eq_true hv,cond_true,lt,e]
theorem ird2_end{text:Bs}{p:H_}{k:Int}{ds:List T_}{q:G_×Int}{f v:Nat}{i:In}{x:Aq_}(hv:¬(v:Int)<16):Fh_ text p k ds q (f+1) v i x=Ei_ text p k ds q (8-0+1) q.2 0 i x:=by
 rw[Fh_,decide_eq_false hv,cond_false]
theorem is_fwd(text:Bs)(p:H_)(k:Int){ds:List T_}{q:G_×Int}(rest:Bs)(a:A16_u64)(ha:∀ i,i<16->U64 (A16.get a i))(n:Nat):∀ (f:Nat) (x:Aq_),n<=16->n<f->(∀ i,i<16-n->A16.get x.seen i=A16.get a i)->Fh_ text p k ds q f (16-n) ⟨sB a n++rest,0⟩ x=Ei_ text p k ds q (8-0+1) q.2 0 ⟨rest,0⟩ ⟨x.book,x.C_,x.notes,a,x.spent⟩:=by
 induction n with
 |zero=>
   intro f x _ hf h
   obtain⟨g,rfl⟩:∃ g,f=g+1:=⟨f-1,by omega⟩
   rw[ird2_end qX]
   have hs:x.seen=a:=a16_ext λi hi=>h i qX
   have⟨x1,x2,x3,x4,x5⟩:=x
   have hs:x4=a:=hs
   subst hs
   rfl
 |succ n ih=>
   intro f x hn hf h
   obtain⟨g,rfl⟩:∃ g,f=g+1:=⟨f-1,by omega⟩
   have hu:=ha (15-n) qX
   have e1:Ah_ ⟨sB a (n+1)++rest,0⟩ 8=(A16.get a (15-n),⟨sB a n++rest,0⟩):=by
     rw[sB,A6]
     exact Ip_ hu.1 (by have :=hu.2;omega)
   have hv:16-(n+1)=15-n:=by omega
   have hv2:15-n+1=16-n:=by omega
   rw[hv,ird2_step qX e1,hv2,ih g _ qX qX]
   intro i hi
   show A16.get (A16.set x.seen (A16.get a (15-n)) (15-n)) i=_
   rw[A16.get_set _ _ _ _ qX qX]
   grind
def pB(a:A8_SpentR):Nat->Bs
 |0=>[]
 |n+1=>numB 8 (A8.get a (7-n)).round.toNat++(numB 1 (A0 .u64 (A8.get a (7-n)).count).toNat++pB a n)
theorem ip_eq(x:Aq_)(n:Nat):∀ (f:Nat) (o:Out),n<=8->n<f->Gt_ x f (8-n) o=o.s++pB x.spent n:=by
 induction n with
 |zero=>
   intro f o _ hf
   obtain⟨g,rfl⟩:∃ g,f=g+1:=⟨f-1,by omega⟩
   rw[Gt_]
   have e:decide (((8-0:Nat):Int)<8)=false:=by decide
   rw[e,cond_false]
   simp[pB]
 |succ n ih=>
   intro f o h hf
   obtain⟨g,rfl⟩:∃ g,f=g+1:=⟨f-1,by omega⟩
   have e:decide (((8-(n+1):Nat):Int)<8)=true:=decide_eq_true qX
   have hv:8-(n+1)=7-n:=by omega
   have hv2:8-(n+1)+1=8-n:=by omega
   rw[Gt_,e,cond_true,hv2,hv,ih g _ qX qX,Hb_,Mg_,pB]
   simp
theorem ird3_step{text:Bs}{p:H_}{k:Int}{ds:List T_}{q:G_×Int}{f v:Nat}{c:Int}{i:In}{x:Aq_}{r r2:Int×In}(hv:(v:Int)<8)(e:Ah_ i 8=r)(e2:Ah_ r.2 1=r2)(hc:r2.1<=16):Ei_ text p k ds q (f+1) c v i x=Ei_ text p k ds q f c (v+1) r2.2 ⟨x.book,x.C_,x.notes,x.seen,A8.set x.spent ⟨r.1,r2.1⟩ v⟩:=by
 rw[Ei_,decide_eq_true hv,cond_true,lt,e,lt,e2];have hg:A8.get (A8.set x.spent (⟨r.1,r2.1⟩:A2_) v) v=⟨r.1,r2.1⟩:=by rw[A8.get_set _ _ _ _ qX qX,if_pos rfl]
 grind
theorem a8_ext{α:Type}{a b:A8 α}(h:∀ i,i<8->A8.get a i=A8.get b i):a=b:=by
 have h0:=h 0 qZ;have h1:=h 1 qZ;have h2:=h 2 qZ;have h3:=h 3 qZ;have h4:=h 4 qZ;have h5:=h 5 qZ;have h6:=h 6 qZ;have h7:=h 7 qZ;have⟨a0,a1,a2,a3,a4,a5,a6,a7⟩:=a;have⟨b0,b1,b2,b3,b4,b5,b6,b7⟩:=b;have h0:a0=b0:=h0;have h1:a1=b1:=h1;have h2:a2=b2:=h2;have h3:a3=b3:=h3;have h4:a4=b4:=h4;have h5:a5=b5:=h5;have h6:a6=b6:=h6;have h7:a7=b7:=h7;grind
theorem ip_fwd(text:Bs)(p:H_)(k:Int)(ds:List T_)(q:G_×Int)(c:Int)(rest:Bs)(a:A8_SpentR)(ha:∀ i,i<8->U64 (A8.get a i).round/\0<=(A8.get a i).count/\(A8.get a i).count<=16)(n:Nat):∀ (f:Nat) (x:Aq_),n<=8->(∀ i,i<8-n->A8.get x.spent i=A8.get a i)->Ei_ text p k ds q (n+f) c (8-n) ⟨pB a n++rest,0⟩ x=Ei_ text p k ds q f c 8 ⟨rest,0⟩ ⟨x.book,x.C_,x.notes,x.seen,a⟩:=by
 induction n with
 |zero=>
   intro f x _ h
   have hs:x.spent=a:=a8_ext λi hi=>h i qX
   have⟨x1,x2,x3,x4,x5⟩:=x
   have hs:x5=a:=hs
   subst hs
   rw[B9]
   rfl
 |succ n ih=>
   intro f x hn h
   have⟨hu,h0,h16⟩:=ha (7-n) qX
   have e1:Ah_ ⟨pB a (n+1)++rest,0⟩ 8=((A8.get a (7-n)).round,⟨numB 1 (A8.get a (7-n)).count.toNat++(pB a n++rest),0⟩):=by
     rw[pB,Cp_ h0 qX]
     simp only[A6]
     exact Ip_ hu.1 (by have :=hu.2;omega)
   have e2:Ah_ ⟨numB 1 (A8.get a (7-n)).count.toNat++(pB a n++rest),0⟩ 1=((A8.get a (7-n)).count,⟨pB a n++rest,0⟩):=My_ h0 qX
   have hv:8-(n+1)=7-n:=by omega
   have hv2:7-n+1=8-n:=by omega
   have hf:n+1+f=(n+f)+1:=by omega
   rw[hv,hf,ird3_step qX e1 e2 h16,hv2,ih f _ qX]
   intro i hi
   show A8.get (A8.set x.spent (⟨(A8.get a (7-n)).round,(A8.get a (7-n)).count⟩:A2_) (7-n)) i=_
   rw[A8.get_set _ _ _ _ qX qX]
   by_cases q2:i=7-n
   . simp_all
   grind
theorem ib_full{x:Aq_}(h:ImOk x):E0_ x=bookB x.book++(numB 4 (Y_ x.C_).length++(Y_ x.C_++(Mj_ x.notes++(sB x.seen 16++pB x.spent 8)))):=by
 have⟨h1,h2,h3,h4,h5,h6⟩:=h;unfold E0_ lt;rw[binds_id,shops_eq];dsimp only;rw[ib0 _ _ _ _ (λs hs=>(h2.1 s hs).1),Hb_,Hb_,ib1 _ _ _ h2.2,Ff_];unfold lt;dsimp only;have⟨w,e1⟩:=is_eq x 16 (16-0+1) (A5_ (A5_ (D_ ⟨([]++numB 1 (x.book.Ae_.length:Int).toNat++x.book.Ae_.flatMap Te_++numB 1 (x.book.binds.length:Int).toNat)++x.book.binds.flatMap M1_,0⟩ ((Y_ x.C_).length:Int) 4) (Y_ x.C_)) (Dt_ x.notes)) qX qX;refine e1.trans ?_;refine (ip_eq x 8 (8-0+1) _ qX qX).trans ?_;rw[outNum4,nb_eq h6];simp[A5_,bookB,A6]
theorem raw_fwd{s r:Bs}:F6_ ⟨s++r,0⟩ (s.length:Int)=(s,⟨r,0⟩):=by
 unfold F6_;simp;grind
theorem ird0_end{text:Bs}{p:H_}{k:Int}{f:Nat}{i:In}{ds:List T_}{r:Int×In}(e:Ah_ i 1=r):Fg_ text p k (f+1) 0 i ds=Dp_ text p k (r.1.toNat+1) r.1 r.2 ds:=by
 rw[Fg_.eq_2];have c:decide ((0:Int)<0)=false:=by decide
 rw[c,B6,cond_false,lt,e]
theorem ird1_end{text:Bs}{p:H_}{k:Int}{f:Nat}{i:In}{ds:List T_}{r11 r12 r14:_}{r13:G_×Int}(e1:Ah_ i 4=r11)(e2:F6_ r11.2 (IntKind.wrap .i64 r11.1)=r12)(e3:Iz_ r12.1 ((gt p.places k.toNat).bytes)=r13)(e4:Ed_ r12.2=r14):∃ x:Aq_,x.C_=r13.1/\x.notes=r14.1/\Dp_ text p k (f+1) 0 i ds=Fh_ text p k ds r13 (16-0+1) 0 r14.2 x:=by
 rw[Dp_.eq_2];have c:decide ((0:Int)<0)=false:=by decide
 rw[c,B6,cond_false];rw[lt,e1];rw[lt,e2];rw[lt,e3];rw[lt,e4];grind
def bkRd(x:Aq_):RdR:=⟨(),x.book.Ae_.map Sm_++x.book.binds.map Om_⟩
def PtF(p:H_)(k:Int)(x:Aq_):Prop:=ImOk x/\KF x.C_/\NtF x.notes/\x.C_.bytes=max 0 (gt p.places k.toNat).bytes/\0<=C3_ x.C_/\(∀ i,i<16->U64 (A16.get x.seen i))/\∀ i,i<8->U64 (A8.get x.spent i).round/\0<=(A8.get x.spent i).count/\(A8.get x.spent i).count<=16
theorem ird3_end{text:Bs}{p:H_}{k:Int}{ds:List T_}{q:G_×Int}{f:Nat}{x:Aq_}{b:Ai_}{r:RdR}(hb:A9_ ⟨(),ds⟩ (Av_ p k) (Bk_ q.1)=(b,true,r))(ht:E0_ ⟨b,x.C_,x.notes,x.seen,x.spent⟩=text):Ei_ text p k ds q (f+1) 0 8 ⟨[],0⟩ x=(⟨b,x.C_,x.notes,x.seen,x.spent⟩,0):=by
 rw[Ei_];have c:decide (((8:Nat):Int)<8)=false:=by decide
 have c1:decide (inEnd ⟨[],0⟩=0)=true:=by decide
 have c2:decide ((0:Int)=0)=true:=by decide
 rw[c,cond_false,c1,c2,A5,CE,cond_false,lt,lt,lt,hb];grind
theorem iread_fwd{x:Aq_}{p:H_}{k:Int}{r:RdR}(h:PtF p k x)(hb:A9_ (bkRd x) (Av_ p k) (Bk_ x.C_)=(x.book,true,r)):Ld_ (E0_ x) p k=(x,0):=by
 have⟨h1,h2,h3,h4,h5,h6,h7⟩:=h;have hs:=h1.1.1;have hbn:=h1.1.2.1;have kl:=kb_len h1.2.2.1 h1.2.2.2.1;obtain⟨text,htx⟩:∃ t,E0_ x=t:=⟨_,rfl⟩;have hfull:=ib_full h1;rw[htx] at hfull ⊢;unfold Ld_;have e1:Ah_ ⟨text,0⟩ 1=((x.book.Ae_.length:Int),⟨x.book.Ae_.flatMap Te_++(numB 1 x.book.binds.length++(x.book.binds.flatMap M1_++(numB 4 (Y_ x.C_).length++(Y_ x.C_++(Mj_ x.notes++(sB x.seen 16++pB x.spent 8)))))),0⟩):=by
   rw[hfull,bookB]
   simp only[A6]
   exact Jn_ qX
 rw[lt,e1];dsimp only;rw[irs_fwd text p k x.book.Ae_ _ [] qX qX h1.2.1.1];have e2:Ah_ ⟨numB 1 x.book.binds.length++(x.book.binds.flatMap M1_++(numB 4 (Y_ x.C_).length++(Y_ x.C_++(Mj_ x.notes++(sB x.seen 16++pB x.spent 8))))),0⟩ 1=((x.book.binds.length:Int),⟨x.book.binds.flatMap M1_++(numB 4 (Y_ x.C_).length++(Y_ x.C_++(Mj_ x.notes++(sB x.seen 16++pB x.spent 8)))),0⟩):=Jn_ qX;rw[ird0_end e2];dsimp only;rw[irb_fwd text p k x.book.binds _ _ qX qX h1.2.1.2];have e3:Ah_ ⟨numB 4 (Y_ x.C_).length++(Y_ x.C_++(Mj_ x.notes++(sB x.seen 16++pB x.spent 8))),0⟩ 4=(((Y_ x.C_).length:Int),⟨Y_ x.C_++(Mj_ x.notes++(sB x.seen 16++pB x.spent 8)),0⟩):=by
   have :=inNum_fwd4 (r:=Y_ x.C_++(Mj_ x.notes++(sB x.seen 16++pB x.spent 8))) (n:=((Y_ x.C_).length:Int)) qX qX
   grind
 have hw:A0 .i64 ((Y_ x.C_).length:Int)=((Y_ x.C_).length:Int):=Rj_ ⟨by show (-9223372036854775808:Int)<=_;omega,by show _<=(9223372036854775807:Int);omega⟩;have e4:F6_ ⟨Y_ x.C_++(Mj_ x.notes++(sB x.seen 16++pB x.spent 8)),0⟩ (A0 .i64 ((Y_ x.C_).length:Int))=(Y_ x.C_,⟨Mj_ x.notes++(sB x.seen 16++pB x.spent 8),0⟩):=by rw[hw];exact raw_fwd
 have e5:=kof_fwd h2 h4 h5;have e6:=nread_fwd h3 (sB x.seen 16++pB x.spent 8);have⟨x0,hx1,hx2,hx3⟩:=ird1_end (text:=text) (p:=p) (k:=k) (f:=0) (ds:=[]++x.book.Ae_.map Sm_++x.book.binds.map Om_) e3 e4 e5 e6;refine hx3.trans ?_;refine (is_fwd text p k (pB x.spent 8) x.seen h6 16 (16-0+1) x0 qX qX (λi hi=>by omega)).trans ?_;have hp:=ip_fwd text p k ([]++x.book.Ae_.map Sm_++x.book.binds.map Om_) (x.C_,0) 0 [] x.spent h7 8 1 ⟨x0.book,x0.C_,x0.notes,x.seen,x0.spent⟩ qX (λi hi=>by omega);rw[AS] at hp;refine hp.trans ?_;have hst:x0.C_=x.C_:=hx1;have hno:x0.notes=x.notes:=hx2;have hxx:(⟨x.book,x0.C_,x0.notes,x.seen,x.spent⟩:Aq_)=x:=by rw[hst,hno]
 refine (ird3_end (b:=x.book) (r:=r) (x:=⟨x0.book,x0.C_,x0.notes,x.seen,x.spent⟩) (by rw[AN];exact hb) ?_).trans ?_;grind;grind
theorem shopOf_none{l:List X_}{n:Bs}(h:∀ s∈l,s.name≠n):D7_ l n=none:=by
 unfold D7_;grind
theorem mk_fwd{b:Ai_}{x:X_}(h:Kh_ x=0)(hn:∀ s∈b.Ae_,s.name≠x.name)(hl:b.Ae_.length<8):B5_ b x=(⟨b.Ae_++[x],b.binds⟩,0):=by
 unfold B5_;have e:decide (8<=(b.Ae_.length:Int))=false:=decide_eq_false qX;rw[h,shopOf_none hn,e];simp
theorem there_none{b:Ai_}{x:R_}(h:x∉b.binds):Am_ b x<0:=by
 unfold Am_;by_cases q:0<=idxP (λz_4:R_=>decide (x=z_4)) b.binds;have h1:=S4_ (p:=λz_4:R_=>decide (x=z_4)) q;have h2:=Jj_ (λz_4:R_=>decide (x=z_4)) b.binds;rw[decide_eq_true_eq] at h1;exact (h (h1 ▸ Gw_ qX)).elim;omega
theorem bd_fwd{b:Ai_}{x:R_}{s:X_}(hs:D7_ b.Ae_ x.Al_=some s)(hr:s.sort≠4)(hn:C6_ x.to'=0)(he:Qk_ (Hd_ x s.sort)=0)(hx:x∉b.binds)(hl:b.binds.length<32):Bh_ b x=(⟨b.Ae_,b.binds++[x]⟩,0):=by
 unfold Bh_;have e:decide (32<=(b.binds.length:Int))=false:=decide_eq_false qX;have e2:decide (0<=Am_ b x)=false:=decide_eq_false (by have :=there_none hx;omega);have e3:decide (s.sort=4)=false:=decide_eq_false hr;rw[hs];simp only[CI,BJ,A5,cond_false];have e4:decide (C6_ x.to'=0)=true:=decide_eq_true hn;have e5:decide (Qk_ (Hd_ x s.sort)=0)=true:=decide_eq_true he;rw[e3,e4,e5,lt,e2,e];simp
def QS(q0:List Aa_)(k:G_):Prop:=k.rows.map (·.q)=q0
theorem Y3_{q0:List Aa_}{k:G_}(h:QS q0 k){i:Int}{l:Ar_}:QS q0 (W_ k i l):=by
 unfold QS W_;dsimp only;by_cases q:i.toNat<k.rows.length;exact (Ny_ (λr:Fe_=>r.q) k.rows i.toNat (gt k.rows i.toNat) ⟨(gt k.rows i.toNat).q,l⟩ (getG q) Y).trans h;rw[CU qX];exact h
theorem qs_wake0{q0:List Aa_}:∀ (t:List Fe_) (k:Nat) (x:G_),QS q0 x->QS q0 (B7_ t k x)
 |[],_,_,h=>h
 |_::t,k,_,h=>qs_wake0 t (k+1) _ (Y3_ h)
theorem cloQ(q0:List Aa_):Clw U64 (λ_=>True) (QS q0) (λ_=>True) where
 kp:=λ{k n m} _ _ h=>by
   unfold A6_ lt
   let Q:G_×Int×Mail×Int->Prop:=λr=>QS q0 r.1/\True
   refine bt (P:=Q) (λ_=>⟨h,trivial⟩) λ_=>bt (P:=Q) (λ_=>⟨h,trivial⟩) λ_=>bt (P:=Q) (λ_=>⟨h,trivial⟩) λ_=>?_
   refine lp2E (P:=Q) (λ_=>True) ?_ λx x1 _=>?_
   . exact bt (P:=LoP _ _) (λ_=>bt (P:=LoP _ _) (λ_=>⟨h,trivial⟩) λ_=>trivial) λ_=>trivial
   . exact bt (P:=Q) (λ_=>⟨h,trivial⟩) λ_=>bt (P:=Q) (λ_=>⟨h,trivial⟩) λ_=>⟨Y3_ h,trivial⟩
 kl:=λ{k n} h=>by
   unfold Cb_ lt
   let Q:G_×F_×Bool->Prop:=λr=>QS q0 r.1
   exact bt (P:=Q) (λ_=>h) λ_=>Y3_ h
 kr:=λ{k n i} h=>by
   unfold Ab_ lt
   let Q:G_×F_×Int->Prop:=λr=>QS q0 r.1/\True
   exact bt (P:=Q) (λ_=>⟨h,trivial⟩) λ_=>⟨Y3_ h,trivial⟩
 kb:=λ{k n i} h=>by
   unfold Bz_ lt
   let Q:G_×Int->Prop:=λr=>QS q0 r.1
   exact bt (P:=Q) (λ_=>h) λ_=>Y3_ h
 ks:=λ{k p m} _ h=>by
   unfold Ba_ lt
   let Q:G_×Int->Prop:=λr=>QS q0 r.1
   exact zI
 kw:=λ{k} _ h=>qs_wake0 _ _ _ h
 kt:=λ{k t} _=>trivial
 na:=λ_ _ _=>trivial
 wd:=λh=>h
 wr:=λh=>h
 wb:=λ_=>trivial
 wp:=λ_=>trivial
theorem forget_eq(b:Ai_)(n:Bs):C1_ b n=⟨b.Ae_,b.binds.filter λy=>He_ y n⟩:=by
 unfold C1_;rw[lt,Xt_]
def BdG(p:H_)(a:Int)(qs:List Aa_)(l:List X_)(y:R_):Prop:=
 (∃ s,D7_ l y.Al_=some s/\s.sort≠4/\Qk_ (Hd_ y s.sort)=0)/\C6_ y.to'=0 /\
 (y.up=true->0<=J_ p y.to'/\Bs_ p a (J_ p y.to')=true)/\(y.up=false->∃ q∈qs,q.name=y.to')
def BkG(p:H_)(a:Int)(qs:List Aa_)(b:Ai_):Prop:=
 (b.Ae_.map (·.name)).Nodup/\b.binds.Nodup/\(∀ s∈b.Ae_,Kh_ s=0/\(s.sort=4->0<=J_ p s.to'/\0<=S_ p a (J_ p s.to')))/\∀ y∈b.binds,BdG p a qs b.Ae_ y
theorem bkg_nil{p:H_}{a:Int}{qs:List Aa_}:BkG p a qs ⟨[],[]⟩:=⟨List.nodup_nil,List.nodup_nil,(λ_ h=>by cases h),λ_ h=>by cases h⟩
theorem bkg_forget{p:H_}{a:Int}{qs qs':List Aa_}{b:Ai_}{n:Bs}(h:BkG p a qs b)(hq:∀ q∈qs,q.name≠n->q∈qs'):BkG p a qs' (C1_ b n):=by
 rw[forget_eq];have⟨h1,h2,h3,h4⟩:=h;refine⟨h1,h2.filter _,h3,λy hy=>?_⟩;have⟨hy1,hy2⟩:=List.mem_filter.1 hy;have⟨g1,g2,g3,g4⟩:=h4 y hy1;refine⟨g1,g2,g3,λhu=>?_⟩;have⟨q,hq1,hq2⟩:=g4 hu;refine⟨q,hq q hq1 (λe=>?_),hq2⟩;rw[He_,hu,CY,Bool.not_eq_true',decide_eq_false_iff_not] at hy2;grind
theorem bkg_more{p:H_}{a:Int}{qs qs':List Aa_}{b:Ai_}(h:BkG p a qs b)(hq:∀ q∈qs,q∈qs'):BkG p a qs' b:=
 ⟨h.1,h.2.1,h.2.2.1,λy hy=>by
   have⟨g1,g2,g3,g4⟩:=h.2.2.2 y hy
   refine⟨g1,g2,g3,λhu=>?_⟩
   have⟨q,hq1,hq2⟩:=g4 hu
   exact⟨q,hq q hq1,hq2⟩⟩
theorem has_eq(p:Pair):∀ h:List Pair,Lk_ p h = decide (p∈h)
 |[]=>rfl
 |x::t=>by
   unfold Lk_
   rw[has_eq p t]
   by_cases e:x=p
   . subst e;simp
   . rw[decide_eq_false e,cond_false]
     have :¬p=x:=λq=>e q.symm
     simp[this]
theorem keys_go:∀ (h ah:List Pair),Iv_ ah h=0->(h.map (·.key)).Nodup/\∀ p∈h,∀ a∈ah,a.key≠p.key
 |[],_,_=>⟨List.nodup_nil,λ_ h=>by cases h⟩
 |p::t,ah,e=>by
   rw[Iv_] at e
   by_cases q:Du_ p ah≠0
   . rw[if_pos q] at e;exact (q e).elim
   . rw[if_neg q] at e
     have⟨h1,h2⟩:=keys_go t (ah++[p]) e
     have hp:∀ a∈ah,a.key≠p.key:=by
       intro a ha he
       apply q
       have hs:(K7_ ah p.key).isSome=true:=by
         unfold K7_
         rw[List.find?_isSome]
         exact⟨a,ha,by simpa using he⟩
       unfold Du_
       rw[hs]
       repeat' split
       all_goals first|assumption|omega|(rename_i h;simp at h)
     refine⟨?_,λr hr a ha=>?_⟩
     . rw[AG,CG]
       refine⟨λhm=>?_,h1⟩
       have⟨r,hr,he⟩:=List.mem_map.1 hm
       exact h2 r hr p pC he.symm
     . rcases List.mem_cons.1 hr with e|e
       . rw[e];exact hp a ha
       . exact h2 r e a (by simp[ha])
theorem hasP_eq{h:List Pair}(e:Dz_ h=0)(p:Pair):Y4_ h p=hasP h p:=by
 unfold Y4_;rw[has_eq];have hn:(h.map (·.key)).Nodup:=by
   unfold Dz_ at e
   split at e
   . cases e
   . exact (keys_go h [] e).1
 have hf:p∈h->K7_ h p.key=some p:=by
   clear e
   induction h with
   |nil=>intro h;cases h
   |cons x t ih=>
     intro hm
     rw[AG,CG] at hn
     unfold K7_
     rw[List.find?_cons]
     rcases List.mem_cons.1 hm with q|q
     . rw[q];simp
     . have :(x.key==p.key)=false:=by
         rw[beq_eq_false_iff_ne]
         intro he
         exact hn.1 (he ▸ BO (f:=λr:Pair=>r.key) q)
       rw[this]
       exact ih hn.2 q
 unfold hasP;by_cases q:p∈h;rw[decide_eq_true q,hf q];simp
 . rw[decide_eq_false q]
   cases e2:K7_ h p.key with
   |none=>rfl
   |some x=>
     have hx:x∈h:=List.mem_of_find?_eq_some e2
     have :¬x=p:=λhe=>q (he ▸ hx)
     simp[this]
theorem goes0'(r:Rule){h:List Pair}(e:Dz_ h=0):∀ (t:List Pair) (n:Int),Ic_ r h t n = bif r.all then decide (n+(t.countP (hasP h):Int)=r.want.length) else decide (0<n+(t.countP (hasP h):Int))
 |[],n=>by unfold Ic_;simp
 |x::t,n=>by
   unfold Ic_
   rw[hasP_eq e,goes0' r e t,goes0' r e t,DR]
   cases hasP h x with
   |true=>
     simp only[cond_true,if_true]
     have :n+1+(t.countP (hasP h):Int)=n+((t.countP (hasP h)+1:Nat):Int):=by omega
     rw[this]
   |false=>simp
theorem heads_all(h:List Pair):∀ t:List Pair,Ki_ true h t = decide (t.countP (hasP h)=t.length)
 |[]=>rfl
 |x::t=>by
   rw[Ki_,DR,A2]
   have hle:=List.countP_le_length (p:=hasP h) (l:=t)
   cases hasP h x with
   |true=>
     simp only[if_true]
     rw[heads_all h t]
     simp
   |false=>
     simp only[CT,if_false,if_true]
     rw[eq_comm,decide_eq_false_iff_not]
     omega
theorem heads_any(h:List Pair):∀ t:List Pair,Ki_ false h t = decide (0<t.countP (hasP h))
 |[]=>rfl
 |x::t=>by
   rw[Ki_,DR]
   cases hasP h x with
   |true=>simp
   |false=>
     simp only[CT,if_false,Nat.add_zero]
     exact heads_any h t
theorem r10goes{r:Rule}{key:Bs}{h:List Pair}(e:Dz_ h=0)(hs:0<=r.sort/\r.sort<=3):Rz_ r key h=Qr_ r key h:=by
 unfold Rz_ Qr_;by_cases q0:r.sort=0;rw[decide_eq_true q0,if_pos q0,cond_true];by_cases q:r.key=key;rw[decide_eq_true q,decide_eq_true q.symm];rw[decide_eq_false q,decide_eq_false (λe=>q e.symm)];rw[decide_eq_false q0,if_neg q0,cond_false];by_cases q1:r.sort=1;rw[decide_eq_true q1,cond_true,if_neg qX,if_neg qX];rw[decide_eq_false q1,cond_false];by_cases q2:r.sort=2;rw[decide_eq_true q2,cond_true,if_pos q2,r04matches]
 . rw[decide_eq_false q2,cond_false,if_neg q2,if_pos qX,goes0' r e]
   cases r.all with
   |true=>
     rw[cond_true,heads_all]
     by_cases q:r.want.countP (hasP h)=r.want.length
     . exact tJ
     . exact tH
   |false=>
     rw[cond_false,heads_any]
     by_cases q:0<r.want.countP (hasP h)
     . exact tJ
     . exact tH
theorem r10check{r:Rule}(h:0<=r.sort):Nc_ r=Qk_ r:=by
 unfold Nc_ Qk_;by_cases q:3<r.sort;rw[decide_eq_true q,if_pos q,cond_true];rw[decide_eq_false q,if_neg q,cond_false];by_cases q0:r.sort=0;rw[if_pos q0,q0];show (bif !decide (keyE [] r.key=0) then keyE [] r.key else Dz_ r.want)=_;by_cases e:keyE [] r.key=0;rw[decide_eq_true e,if_neg pW];rfl;rw[decide_eq_false e,if_pos e];rfl;rw[if_neg q0,decide_eq_true (show 0<r.sort by omega)];show (bif !decide (keyE patB r.key=0) then keyE patB r.key else Dz_ r.want)=_;by_cases e:keyE patB r.key=0;rw[decide_eq_true e,if_neg pW];rfl;rw[decide_eq_false e,if_pos e];rfl
theorem r14find(b:Ai_)(n:Bs):Gc_ b n=idxP (λs:X_=>decide (s.name=n)) b.Ae_:=Sx_ _ (J5_ n) (λ_=>rfl) (λ_ _ _=>rfl) b.Ae_ 0
theorem shop_c(b:Ai_)(n:Bs):(Gc_ b n<0/\D7_ b.Ae_ n=none)\/∃ i:Nat,Gc_ b n=i/\i<b.Ae_.length/\D7_ b.Ae_ n=some (gt b.Ae_ i):=by
 rw[r14find];have hb:=Jj_ (λs:X_=>decide (s.name=n)) b.Ae_;by_cases q:idxP (λs:X_=>decide (s.name=n)) b.Ae_<0;exact .inl ⟨q,Ph_ q⟩;obtain⟨i,hi⟩:∃ i:Nat,idxP (λs:X_=>decide (s.name=n)) b.Ae_=i:=⟨_,(BD qX).symm⟩;have hl:i<b.Ae_.length:=by omega
 refine .inr ⟨i,hi,hl,?_⟩;have hg:=getG (xs:=b.Ae_) (k:=i) hl;have h2:b.Ae_[(idxP (λs:X_=>decide (s.name=n)) b.Ae_).toNat]? = some (gt b.Ae_ i):=by rw[hi,A7];exact hg
 exact (idxP_get q h2).2
theorem put0'(l:List Bs)(s:Bs):∀ (f v:Nat),l.length-v<f->v<=l.length->Ke_ l s f v = bif decide (s∈l.drop v) then l else (l++[s])
 |0,v,h,_=>by omega
 |f+1,v,h,hv=>by
   unfold Ke_
   by_cases q:v<l.length
   . rw[decide_eq_true (show (v:Int)<(l.length:Int) by omega),cond_true,put0' l s f (v+1) qX qX,S2_ q]
     by_cases e:gt l v=s
     . rw[decide_eq_true e,cond_true];simp[e]
     . rw[decide_eq_false e,cond_false]
       have :¬s=gt l v:=λq=>e q.symm
       simp[this]
   . rw[decide_eq_false (show ¬(v:Int)<(l.length:Int) by omega),cond_false,A9 qX]
     simp
theorem r14put(l:List Bs)(s:Bs):Oh_ l s=Hl_ l s:=by
 unfold Oh_ Hl_;rw[put0' l s _ 0 qX qX];simp
theorem leads0{b:Ai_}{Al_ key:Bs}{h:List Pair}{i:Nat}(e:Dz_ h=0)(hi:D7_ b.Ae_ Al_=some (gt b.Ae_ i))(hs:0<=(gt b.Ae_ i).sort/\(gt b.Ae_ i).sort<=3):∀ (t:List R_) (q p:List Bs),Hi_ b Al_ key h (i:Int) t q p=B4_ b Al_ key h t q p
 |[],_,_=>rfl
 |x::t,q,p=>by
   unfold Hi_ B4_ lt lt1
   dsimp only
   have hr:N4_ x (gt b.Ae_ ((i:Int)).toNat).sort=Hd_ x (gt b.Ae_ i).sort:=by rw[A7];rfl
   have hg:Rz_ (Hd_ x (gt b.Ae_ i).sort) key h=Qr_ (Hd_ x (gt b.Ae_ i).sort) key h:=r10goes e hs
   rw[hr,hg,hi,BJ,r14put,r14put,leads0 e hi hs t,leads0 e hi hs t,leads0 e hi hs t]
   by_cases c:x.Al_=Al_
   . rw[decide_eq_true c]
     simp only[AW,A5,cond_false]
     cases Qr_ (Hd_ x (gt b.Ae_ i).sort) key h<;>rfl
   . rw[decide_eq_false c];rfl
theorem r14leads{b:Ai_}{Al_ key:Bs}{h:List Pair}(e:Dz_ h=0)(hb:BkB b):Jp_ b Al_ key h=By_ b Al_ key h:=by
 unfold Jp_ By_ lt;dsimp only
 rcases shop_c b Al_ with ⟨h1,h2⟩|⟨i,h1,hl,h2⟩
 rw[decide_eq_true h1,h2];rfl;rw[h1,decide_eq_false qX,h2];simp only[cond_false,CI,A5,BJ,A7];have hsh:=hb.1 _ (Gw_ hl);have h4:(gt b.Ae_ i).sort<=4:=by
   have :=hsh.1
   unfold Kh_ at this
   split at this
   . rename_i q;exact (q this).elim
   . split at this
     . cases this
     . omega
 by_cases c:(gt b.Ae_ i).sort=4;rw[decide_eq_true c];rfl;rw[decide_eq_false c,cond_false,cond_false];exact leads0 e h2 ⟨hsh.2,by omega⟩ _ _ _
theorem r14make{b:Ai_}{x:X_}:Sb_ b x=B5_ b x:=by
 unfold Sb_ B5_ lt lt1;dsimp only;have he:(bif (((decide ((bif ((decide ((bif ((decide ((C6_ x.name)=0))&&(decide (4<x.sort))) then 8 else (C6_ x.name))=0))&&(decide (x.sort=4))) then (C6_ x.to') else (bif ((decide ((C6_ x.name)=0))&&(decide (4<x.sort))) then 8 else (C6_ x.name)))=0))&&(decide (x.sort<4)))&&(!decide (x.to'=[]))) then (4:Int) else (bif ((decide ((bif ((decide ((C6_ x.name)=0))&&(decide (4<x.sort))) then 8 else (C6_ x.name))=0))&&(decide (x.sort=4))) then (C6_ x.to') else (bif ((decide ((C6_ x.name)=0))&&(decide (4<x.sort))) then 8 else (C6_ x.name))))=Kh_ x:=by
   unfold Kh_
   by_cases q:C6_ x.name=0
   . rw[if_neg oP,decide_eq_true q,q]
     by_cases q1:4<x.sort
     . rw[if_pos q1,decide_eq_true q1];simp
     . rw[if_neg q1,decide_eq_false q1]
       by_cases q2:x.sort=4
       . rw[if_pos q2,decide_eq_true q2,decide_eq_false (show ¬x.sort<4 by omega)];simp
       . rw[if_neg q2,decide_eq_false q2,decide_eq_true (show x.sort<4 by omega)]
         by_cases q3:x.to'=[]
         . simp[q3]
         . simp[q3]
   . rw[if_pos q,decide_eq_false q];simp[q]
 rw[he];by_cases q:Kh_ x=0
 . rw[decide_eq_true q]
   simp only[A5,cond_false]
   rcases shop_c b x.name with ⟨h1,h2⟩|⟨i,h1,hl,h2⟩
   rw[h2,decide_eq_false (show ¬0<=Gc_ b x.name by omega)]
   simp
   rw[h1,h2,decide_eq_true (show (0:Int)<=(i:Int) by omega)]
   simp only[AW,CI,BJ,A7,cond_true]
   by_cases c:gt b.Ae_ i=x
   rw[decide_eq_true c,decide_eq_true c.symm]
   rw[decide_eq_false c,decide_eq_false (λe=>c e.symm)]
 rw[decide_eq_false q];rfl
theorem mb0(b:Ai_)(x:R_):∀ t:List R_,Fi_ b x t = bif decide (x∈t) then (b,0) else Fi_ b x []
 |[]=>by simp
 |y::t=>by
   conv=>lhs;unfold Fi_
   rw[mb0 b x t]
   by_cases e:x=y
   . rw[decide_eq_true e];simp[e]
   . rw[decide_eq_false e,cond_false];simp[e]
theorem there_c(b:Ai_)(x:R_):decide (0<=Am_ b x) = decide (x∈b.binds):=by
 by_cases q:x∈b.binds
 . rw[decide_eq_true q,decide_eq_true_iff]
   unfold Am_
   rcases Int.lt_or_le (idxP (λz_4:R_=>decide (x=z_4)) b.binds) 0 with h|h
   have :=List.find?_eq_none.1 (Ph_ h) x q
   simp at this
   exact h
 rw[decide_eq_false q,decide_eq_false_iff_not];have :=there_none q;omega
theorem r14bind{b:Ai_}(hb:BkB b){x:R_}:Kd_ b x=Bh_ b x:=by
 unfold Kd_ Bh_ lt;dsimp only
 rcases shop_c b x.Al_ with ⟨h1,h2⟩|⟨i,h1,hl,h2⟩
 rw[decide_eq_true h1,h2];rfl;rw[h1,decide_eq_false qX,h2];simp only[cond_false,CI,A5,BJ,A7];by_cases c:(gt b.Ae_ i).sort=4;rw[decide_eq_true c];rfl;rw[decide_eq_false c];simp only[cond_false];have hr:Nc_ (N4_ x (gt b.Ae_ i).sort)=Qk_ (Hd_ x (gt b.Ae_ i).sort):=r10check (hb.1 _ (Gw_ hl)).2;rw[hr];by_cases e:C6_ x.to'=0;rw[decide_eq_true e,cond_true,A5,cond_false];unfold lt1;dsimp only;by_cases e2:Qk_ (Hd_ x (gt b.Ae_ i).sort)=0
 . rw[decide_eq_true e2]
   simp only[A5,cond_false]
   rw[mb0,there_c]
   cases decide (x∈b.binds) with
   |true=>rfl
   |false=>
     unfold Fi_
     simp
 rw[decide_eq_false e2];rfl;rw[decide_eq_false e,cond_false,AT,cond_true];unfold lt1;dsimp only;rw[decide_eq_false e];rfl
theorem un0(b:Ai_)(x:R_):∀ (t l:List R_) (e:Int),F2_ b x t l e=F2_ b x [] (l++t.filter (λy=>!decide (x=y))) (bif decide (x∈t) then 0 else e)
 |[],l,e=>by simp
 |y::t,l,e=>by
   conv=>lhs;unfold F2_
   rw[un0 b x t,un0 b x t]
   by_cases q:x=y
   . rw[decide_eq_true q,cond_true]
     subst q
     simp
   . rw[decide_eq_false q,cond_false]
     simp[q]
theorem filter_one{l:List R_}(hn:l.Nodup){x:R_}{i:Nat}(hi:i<l.length)(he:gt l i=x):l.filter (λy=>!decide (x=y))=l.take i++l.drop (i+1):=by
 have hl:l=l.take i++(gt l i::l.drop (i+1)):=by rw[<- S2_ hi,AL]
 rw[hl,CQ] at hn;have⟨_,h2,h3⟩:=hn;rw[CG] at h2;have ha:(l.take i).filter (λy=>!decide (x=y))=l.take i:=by
   rw[BN]
   intro y hy
   have :=h3 y hy (gt l i) pC
   rw[he] at this
   have :¬x=y:=λq=>this q.symm
   exact sY
 have hb:(l.drop (i+1)).filter (λy=>!decide (x=y))=l.drop (i+1):=by
   rw[BN]
   intro y hy
   have :¬x=y:=λe=>h2.1 (by rw[he,e];exact hy)
   exact sY
 exact zD
theorem r14unbind{b:Ai_}(hn:b.binds.Nodup){x:R_}:M0_ b x=C2_ b x:=by
 unfold M0_ C2_ lt;dsimp only;rw[un0];unfold F2_;have hc:=there_c b x;by_cases q:x∈b.binds;rw[decide_eq_true q] at hc ⊢;have h0:0<=Am_ b x:=of_decide_eq_true hc;rw[decide_eq_false (show ¬Am_ b x<0 by omega)];have hb:-1<=Am_ b x/\Am_ b x<b.binds.length:=Jj_ (λz_4:R_=>decide (x=z_4)) b.binds;have hg:=S4_ (p:=λz_4:R_=>decide (x=z_4)) (l:=b.binds) h0;have hf:=filter_one hn (x:=x) (i:=(Am_ b x).toNat) qX (of_decide_eq_true hg).symm;have e1:(Am_ b x+1).toNat=(Am_ b x).toNat+1:=by omega
 rw[e1];simp[hf];rw[decide_eq_false q] at hc ⊢;have h0:¬0<=Am_ b x:=of_decide_eq_false hc;rw[decide_eq_true (show Am_ b x<0 by omega)];simp
theorem fg0(b:Ai_)(n:Bs):∀ (t l:List R_),Gr_ b n t l=⟨b.Ae_,l++t.filter (λy=>He_ y n)⟩
 |[],l=>by unfold Gr_;simp
 |y::t,l=>by
   unfold Gr_
   rw[fg0 b n t,fg0 b n t,DS]
   show (bif He_ y n then _ else _)=_
   cases He_ y n<;>simp
theorem r14forget{b:Ai_}{n:Bs}:Ll_ b n=C1_ b n:=by
 unfold Ll_;rw[fg0,forget_eq];simp
theorem dr1(n:Bs)(s:List X_):∀ (t l:List R_),Hq_ n t s l=(⟨s,l++t.filter (λy=>!decide (y.Al_=n))⟩,0)
 |[],l=>by unfold Hq_;simp
 |y::t,l=>by
   unfold Hq_
   rw[dr1 n s t,dr1 n s t,DS]
   cases decide (y.Al_=n)<;>simp
theorem dr0(b:Ai_)(n:Bs):∀ (t s:List X_) (l:List R_),Id_ b n t s l=Hq_ n b.binds (s++t.filter (λy=>!decide (y.name=n))) l
 |[],s,l=>by unfold Id_;simp
 |y::t,s,l=>by
   unfold Id_
   rw[dr0 b n t,dr0 b n t,DS]
   cases decide (y.name=n)<;>simp
theorem filter_shop{l:List X_}(hn:(l.map (·.name)).Nodup){n:Bs}{i:Nat}(hi:i<l.length)(he:(gt l i).name=n):l.filter (λy=>!decide (y.name=n))=l.take i++l.drop (i+1):=by
 have hl:l=l.take i++(gt l i::l.drop (i+1)):=by rw[<- S2_ hi,AL]
 rw[hl,C3,AG,CQ] at hn;have⟨_,h2,h3⟩:=hn;rw[CG] at h2;have ha:(l.take i).filter (λy=>!decide (y.name=n))=l.take i:=by
   rw[BN]
   intro x hx
   have :=h3 x.name (BO (f:=λr:X_=>r.name) hx) (gt l i).name pC
   exact tO
 have hb:(l.drop (i+1)).filter (λy=>!decide (y.name=n))=l.drop (i+1):=by
   rw[BN]
   intro x hx
   have :x.name≠(gt l i).name:=λe=>h2.1 (e ▸ BO (f:=λr:X_=>r.name) hx)
   exact tO
 exact zD
theorem r14drop{b:Ai_}(hn:(b.Ae_.map (·.name)).Nodup){n:Bs}:Sa_ b n=Dx_ b n:=by
 unfold Sa_ Dx_ lt;dsimp only;have e0:(λz_5:X_=>(Dr_ z_5 n))=(λs:X_=>decide (s.name=n)):=rfl;rw[r14find,e0];have hb:=Jj_ (λs:X_=>decide (s.name=n)) b.Ae_;by_cases q:idxP (λs:X_=>decide (s.name=n)) b.Ae_<0;exact tK;rw[decide_eq_false q];simp only[cond_false];have hg:=S4_ (p:=λs:X_=>decide (s.name=n)) (l:=b.Ae_) qX;have hf:=filter_shop hn (i:=(idxP (λs:X_=>decide (s.name=n)) b.Ae_).toNat) qX (of_decide_eq_true hg);have e1:(idxP (λs:X_=>decide (s.name=n)) b.Ae_+1).toNat=(idxP (λs:X_=>decide (s.name=n)) b.Ae_).toNat+1:=by omega
 rw[dr0,dr1,e1,Xt_];simp only[AN,hf,AQ,B7,AS];rfl
theorem shopOf_app{l:List X_}{x s:X_}{n:Bs}(h:D7_ l n=some s):D7_ (l++[x]) n=some s:=by
 unfold D7_ at h ⊢;rw[List.find?_append,h];rfl
theorem shopOf_nm{l:List X_}{n:Bs}(h:¬(D7_ l n).isSome=true):∀ s∈l,s.name≠n:=by
 unfold D7_ at h;grind
theorem bkg_make{p:H_}{a:Int}{qs:List Aa_}{b:Ai_}{x:X_}(h:BkG p a qs b)(hx:x.sort=4->0<=J_ p x.to'/\0<=S_ p a (J_ p x.to')):BkG p a qs (B5_ b x).1:=by
 unfold B5_;let Q:Ai_×Int->Prop:=λr=>BkG p a qs r.1;refine bt (P:=Q) (λ_=>h) λe1=>bt (P:=Q) (λ_=>h) λ_=>bt (P:=Q) (λ_=>h) λe3=>bt (P:=Q) (λ_=>h) λ_=>?_;simp only[BF,decide_eq_true_eq] at e1;have hn:=shopOf_nm (l:=b.Ae_) (n:=x.name) (by rw[e3];decide);have⟨h1,h2,h3,h4⟩:=h;have hf:[b.Ae_,[x]].flatten=b.Ae_++[x]:=by simp
 refine⟨?_,h2,λs hs=>?_,λy hy=>?_⟩;grind;grind;have⟨⟨s,g1,g2,g3⟩,g4⟩:=h4 y hy;refine⟨⟨s,?_,g2,g3⟩,g4⟩;show D7_ [b.Ae_,[x]].flatten y.Al_=some s;rw[hf];exact shopOf_app g1
theorem bkg_bind{p:H_}{a:Int}{qs:List Aa_}{b:Ai_}{x:R_}(h:BkG p a qs b)(hu:x.up=true->0<=J_ p x.to'/\Bs_ p a (J_ p x.to')=true)(hq:x.up=false->∃ q∈qs,q.name=x.to'):BkG p a qs (Bh_ b x).1:=by
 unfold Bh_;let Q:Ai_×Int->Prop:=λr=>BkG p a qs r.1;refine bt (P:=Q) (λ_=>h) λe1=>bt (P:=Q) (λ_=>h) λe2=>bt (P:=Q) (λ_=>h) λe3=>bt (P:=Q) (λ_=>h) λe4=>?_;unfold lt;refine bt (P:=Q) (λ_=>h) λe5=>bt (P:=Q) (λ_=>h) λ_=>?_;simp only[BF] at e1;simp only[decide_eq_false_iff_not] at e2 e5;simp only[BF,decide_eq_true_eq] at e3 e4;have⟨s,hs⟩:=Option.isSome_iff_exists.1 e1;rw[hs] at e2 e4;have⟨h1,h2,h3,h4⟩:=h;have hf:[b.binds,[x]].flatten=b.binds++[x]:=by simp
 have hnot:x∉b.binds:=λhm=>by
   have hlt:Am_ b x<0:=by omega
   unfold Am_ at hlt
   have :=List.find?_eq_none.1 (Ph_ hlt) x hm
   simp at this
 refine⟨h1,?_,h3,λy hy=>?_⟩;grind
 . rcases Pr_ hy with q|q
   exact h4 y q
   rw[q]
   exact⟨⟨s,hs,e2,e4⟩,e3,hu,hq⟩
theorem bkg_unbind{p:H_}{a:Int}{qs:List Aa_}{b:Ai_}{x:R_}(h:BkG p a qs b):BkG p a qs (C2_ b x).1:=by
 unfold C2_ lt;let Q:Ai_×Int->Prop:=λr=>BkG p a qs r.1;refine bt (P:=Q) (λ_=>h) λe=>?_;simp only[decide_eq_false_iff_not] at e;have hk:(Am_ b x+1).toNat=(Am_ b x).toNat+1:=by omega
 have hs:([b.binds.take (Am_ b x).toNat,b.binds.drop (Am_ b x+1).toNat].flatten).Sublist b.binds:=by rw[hk];exact Vd_ _ _
 exact⟨h.1,hs.nodup h.2.1,h.2.2.1,λy hy=>h.2.2.2 y (hs.subset hy)⟩
theorem shopOf_cut{l:List X_}{n m:Bs}{k:Nat}(hk:k<l.length)(hm:(gt l k).name=m)(hn:n≠m):D7_ [l.take k,l.drop (k+1)].flatten n=D7_ l n:=by
 have hg:l.drop k=gt l k::l.drop (k+1):=S2_ hk;have hl:l=l.take k++(gt l k::l.drop (k+1)):=by rw[<- hg,AL]
 have hf:[l.take k,l.drop (k+1)].flatten=l.take k++l.drop (k+1):=by simp
 rw[hf]
 conv=>rhs;rw[hl]
 unfold D7_;grind
theorem bkg_drop{p:H_}{a:Int}{qs:List Aa_}{b:Ai_}{n:Bs}(h:BkG p a qs b):BkG p a qs (Dx_ b n).1:=by
 have hb:=Jj_ (λz_5:X_=>(Dr_ z_5 n)) b.Ae_;unfold Dx_ lt;let Q:Ai_×Int->Prop:=λr=>BkG p a qs r.1;refine bt (P:=Q) (λ_=>h) λe=>?_;simp only[decide_eq_false_iff_not] at e;have hp:=S4_ (p:=λz_5:X_=>(Dr_ z_5 n)) (l:=b.Ae_) qX;generalize idxP (λz_5:X_=>(Dr_ z_5 n)) b.Ae_=r at *;have hk:(r+1).toNat=r.toNat+1:=by omega
 rw[hk,Xt_];have hs:=Vd_ b.Ae_ r.toNat;have hnm:(gt b.Ae_ r.toNat).name=n:=by simpa [Dr_] using hp
 refine⟨(hs.map _).nodup h.1,h.2.1.filter _,λs hm=>h.2.2.1 s (hs.subset hm),λy hy=>?_⟩;have⟨hy1,hy2⟩:=List.mem_filter.1 hy;have⟨⟨s,g1,g2,g3⟩,g4⟩:=h.2.2.2 y hy1;have hne:y.Al_≠n:=by simpa [Ol_] using hy2
 refine⟨⟨s,?_,g2,g3⟩,g4⟩;show D7_ [b.Ae_.take r.toNat,b.Ae_.drop (r.toNat+1)].flatten y.Al_=some s;rw[shopOf_cut qX hnm hne];exact g1
def SbG(s:E_):Prop:=BkG s.L_ s.place (s.x.C_.rows.map (·.q)) s.x.book
theorem make_more{k:G_}{q:Aa_}:∀ x∈k.rows.map (·.q),x∈(As_ k q).1.rows.map (·.q):=by
 unfold As_ lt;grind
theorem drop_more{k:G_}{n:Bs}:∀ x∈k.rows.map (·.q),x.name≠n->x∈(Bg_ k n).1.rows.map (·.q):=by
 have hb:=at_b k n;unfold Bg_ lt;let R:G_×Int->Prop:=λr=>∀ x∈k.rows.map (·.q),x.name≠n->x∈r.1.rows.map (·.q);refine bt (P:=R) (λ_ _ h _=>h) λe=>λx hx hne=>?_;simp only[decide_eq_false_iff_not] at e;obtain⟨r,hr,rfl⟩:=List.mem_map.1 hx;have hat:=at_n (s:=k) (n:=n) qX;refine List.mem_map.2 ⟨r,?_,rfl⟩;show r∈[k.rows.take (I_ k n).toNat,k.rows.drop (I_ k n+1).toNat].flatten;have hk:(I_ k n+1).toNat=(I_ k n).toNat+1:=by omega
 rw[hk];have hg:k.rows.drop (I_ k n).toNat=gt k.rows (I_ k n).toNat::k.rows.drop ((I_ k n).toNat+1):=S2_ qX;have hl:k.rows=k.rows.take (I_ k n).toNat++(gt k.rows (I_ k n).toNat::k.rows.drop ((I_ k n).toNat+1)):=by rw[<- hg,AL]
 grind
theorem queue_in{k:G_}{n:Bs}(h:(Aj_ k n).2=true):∃ q∈k.rows.map (·.q),q.name=n:=by
 have hb:=at_b k n;by_cases e:I_ k n<0
 . unfold Aj_ at h
   rw[lt,decide_eq_true e] at h
   cases h
 have hat:=at_n (s:=k) (n:=n) qX;exact⟨_,List.mem_map.2 ⟨_,Gw_ qX,rfl⟩,hat⟩
theorem drop_same{k:G_}{n:Bs}(h:¬(Bg_ k n).2=0):(Bg_ k n).1=k:=by
 revert h
 unfold Bg_ lt;grind
theorem doBk{s:E_}{d:T_}(ht:U64 d.tick)(hc:0<=d.code/\d.code<=255)(h:StOk s)(h0:0<=d.P_.hops)(hs:SbG s):SbG (Z_ s d).1:=by
 have key:∀ t:E_,Kw U64 (QS (s.x.C_.rows.map (·.q))) (λ_=>True) s t->SbG t:=λt e=>by
   have hk:t.x.C_.rows.map (·.q)=s.x.C_.rows.map (·.q):=e.k
   unfold SbG
   rw[e.po,e.pl,e.bo,hk]
   exact hs
 rcases do_w (cloQ (s.x.C_.rows.map (·.q))) ht hc h h0 trivial (⟨rfl,rfl,rfl,rfl,trivial,rfl,λ_=>id⟩:Kw U64 (QS (s.x.C_.rows.map (·.q))) (λ_=>True) s s) with e|(e|e)|e|e
 rw[e];exact hs;exact key _ e;have hk:(Z_ s d).1.x.C_.rows.map (·.q)=s.x.C_.rows.map (·.q):=e.k;have h1:(Z_ s d).1.L_=s.L_:=e.po;have h2:(Z_ s d).1.place=s.place:=e.pl;have h3:(Z_ s d).1.x.book=s.x.book:=e.bo;unfold SbG;rw[h1,h2,h3,hk];exact hs;rw[e];unfold Bq_ lt;let Q:E_×Int->Prop:=λr=>SbG r.1;refine bt (P:=Q) (λ_=>bkg_more hs make_more) λ_=>bt (P:=Q) (λ_=>bkg_forget hs drop_more) λe2=>?_;simp only[decide_eq_false_iff_not] at e2;show BkG s.L_ s.place ((Bg_ s.x.C_ d.name).1.rows.map (·.q)) s.x.book;rw[drop_same e2];exact hs;rw[e];unfold Ao_ lt;let Q:E_×Int->Prop:=λr=>SbG r.1;have hn:∀ {e},Q (s,e):=hs;refine bt (P:=Q) (λ_=>?_) λ_=>?_;refine lp0E (P:=Q) (λ_=>d.Al_.sort=4->0<=J_ s.L_ d.Al_.to'/\0<=S_ s.L_ s.place (J_ s.L_ d.Al_.to')) ?_ λhx=>bkg_make hs hx;refine bt (P:=LoP _ _) (λ_=>bt (P:=LoP _ _) (λ_=>hn) λc2=>bt (P:=LoP _ _) (λ_=>hn) λc3=>?_) λc=>?_;simp only[decide_eq_false_iff_not] at c2 c3;exact λ_=>⟨by omega,by omega⟩;simp only[decide_eq_false_iff_not] at c;exact λh4=>(c h4).elim;refine bt (P:=Q) (λ_=>bkg_drop hs) λ_=>bt (P:=Q) (λ_=>bkg_unbind hs) λ_=>lp0E (P:=Q) (λ_=>(d.bind.up=true->0<=J_ s.L_ d.bind.to'/\Bs_ s.L_ s.place (J_ s.L_ d.bind.to')=true)/\(d.bind.up=false->(Aj_ s.x.C_ d.bind.to').2=true)) ?_ λhx=>bkg_bind hs hx.1 λhu=>queue_in (hx.2 hu);unfold lt1;refine bt (P:=LoP _ _) (λ_=>hn) λc=>bt (P:=LoP _ _) (λ_=>hn) λc2=>⟨λhu=>?_,λhu=>?_⟩;grind;grind
theorem dshop_e{s:X_}(h:Kh_ s=0):Dl_ (Sm_ s)=0:=by
 have h3:=Vx_ h;unfold Kh_ at h
 split at h
 grind
 . rename_i q1
   split at h
   . cases h
   have hm:Kl_ s.to'=0:=by
     unfold Kl_
     grind
   have hn:C6_ s.name=0:=by simpa using q1
   unfold Dl_ Sm_
   rw[if_neg (show ¬(12:Int)<0 by decide),if_neg oT,if_pos Y]
   simp[Do_,Dd_,hn,hm,h3.2.2]
def Xa_(q:Aa_):T_:=(⟨2,0,aR,q,aS,[],0,0,0,0,0,aK,[]⟩:T_)
theorem dqueue_e{q:Aa_}(h:Bm_ q=0):Dl_ (Xa_ q)=0:=by
 have hn:C6_ q.name=0:=by
   by_cases e:C6_ q.name=0
   . exact e
   . unfold Bm_ at h
     grind
 have hm:Kl_ q.dead=0:=by
   unfold Kl_
   by_cases e:q.dead=[]
   . rw[if_pos e]
   . rw[if_neg e]
     unfold Bm_ at h
     grind
 unfold Dl_ Xa_;rw[if_neg (show ¬(12:Int)<2 by decide),if_neg oT,if_neg (show ¬(2:Int)=0 by decide),if_pos Y];simp[Do_,hn,hm]
theorem dbind_e{y:R_}(hb:BiB y)(hs:C6_ y.Al_=0):Dl_ (Om_ y)=0:=by
 have⟨h1,h2,h3,h4,_⟩:=hb;unfold Dl_ Om_;rw[if_neg (show ¬(12:Int)<4 by decide),if_neg oT,if_neg (show ¬(4:Int)=0 by decide),if_neg (show ¬(4:Int)=2 by decide),if_pos (.inl Y)];simp[Do_,Dd_,hs,h2,h4];omega
theorem cloK(b:Int):Clw U64 (λ_=>True) (KOk b) (λ_=>True) where
 kp:=λ{k n m} hs _ h=>⟨kput_k (n:=n) (m:=m) hs h,trivial⟩
 kl:=λ{k n} h=>klend_k (n:=n) h
 kr:=λ{k n i} h=>⟨krem_k (n:=n) (id:=i) h,trivial⟩
 kb:=λ{k n i} h=>kback_k (n:=n) (id:=i) h
 ks:=λ{k p m} _ h=>kraise_k (p:=p) (m:=m) h
 kw:=λ{k} _ h=>kwake_k h
 kt:=λ{k t} _=>trivial
 na:=λ_ _ _=>trivial
 wd:=λh=>h
 wr:=λh=>h
 wb:=λ_=>trivial
 wp:=λ_=>trivial
def Sn(a:A16_u64):Prop:=∀ i,i<16->U64 (A16.get a i)
theorem Sn.set{a:A16_u64}(h:Sn a){x:Int}(hx:U64 x)(k:Nat):Sn (A16.set a x k):=by
 have key:∀ k,k<16->Sn (A16.set a x k):=λk hk i hi=>by
   rw[A16.get_set _ _ _ _ hk hi]
   by_cases q:i=k
   . grind
   . rw[if_neg q];exact h i hi
 by_cases q:k<16;exact key k q;obtain⟨n,rfl⟩:∃ n,k=n+16:=⟨_,(Nat.sub_add_cancel qX).symm⟩;exact key 15 qZ
structure Rk(p:H_)(a b:Int)(s:E_):Prop where
 po:s.L_=p
 pl:s.place=a
 k:KOk b s.x.C_
 se:Sn s.x.seen
 sp:Sp s.x.spent
theorem doK{p:H_}{a b:Int}{s:E_}{d:T_}(ht:U64 d.tick)(hc:0<=d.code/\d.code<=255)(hn:U64 d.number)(h:StOk s)(h0:0<=d.P_.hops)(hs:Rk p a b s):Rk p a b (Z_ s d).1:=by
 have⟨h1,h2,h3,h4,h5⟩:=hs
 rcases do_w (cloK b) ht hc h h0 trivial (⟨rfl,rfl,rfl,h3,trivial,rfl,λ_=>id⟩:Kw U64 (KOk b) (λ_=>True) s s) with e|(e|e)|e|e
 rw[e];exact⟨h1,h2,h3,h4,h5⟩;exact⟨e.po.trans h1,e.pl.trans h2,e.k,by rw[e.se];exact h4,e.sp (λ_ h=>h) h5⟩;exact⟨e.po.trans h1,e.pl.trans h2,e.k,by rw[e.se];exact h4.set hn _,e.sp (λ_ h=>h) h5⟩
 . have⟨c,k,e2,e3,_⟩:=queues_x s d
   rw[e,e2]
   refine⟨h1,h2,?_,h4,h5⟩
   show KOk b k
   rcases e3 with rfl|rfl
   exact kmake_k h3
   exact kdrop_k h3
 have⟨c,e2,_⟩:=shops_x s d;rw[e,e2];exact⟨h1,h2,h3,h4,h5⟩
theorem r05find{p:H_}{n:Bs}:Ku_ p n=J_ p n:=Sx_ _ (J4_ n) (λ_=>rfl) (λ_ _ _=>rfl) p.places 0
theorem Up_(p:H_)(a b:Int):Fx_ p a b=S_ p a b:=Sx_ _ (Ib_ a b) (λ_=>rfl) (λ_ _ _=>rfl) p.grants 0
theorem r06round{p:H_}{t:Int}(ht:U64 t)(hs:0<p.slots.length):O4_ p t=Gh_ p t:=by
 unfold O4_ Gh_;have hn:(0:Int)<p.slots.length:=by omega
 have h1:=Int.emod_nonneg t (show (p.slots.length:Int)≠0 by omega);have h2:=Int.emod_lt_of_pos t hn;have h4:=Int.emod_add_mul_ediv t (p.slots.length:Int);have h6:=Int.mul_nonneg (C9 hn) (Int.ediv_nonneg ht.1 (C9 hn));have h3:t%(p.slots.length:Int)<=t:=by omega
 have hw:A0 .u64 (t-t%(p.slots.length:Int))=t-t%(p.slots.length:Int):=Cp_ qX (by have :=ht.2;omega);rw[hw];have h5:t-t%(p.slots.length:Int)=(p.slots.length:Int)*(t/(p.slots.length:Int)):=by omega
 rw[h5,Int.mul_ediv_cancel_left _ qX]
def Iv(s:E_):Prop:=StOk s/\RoB s.x.C_/\KG s.x.C_
theorem Iv.C_{s:E_}(h:Iv s){k:G_}(h1:StkOk k)(h2:RoB k)(h3:KG k):Iv ⟨⟨s.x.book,k,s.x.notes,s.x.seen,s.x.spent⟩,s.L_,s.place⟩:=⟨Co_ h.1 h1,h2,h3⟩
theorem Vv_{s:E_}(h:s.x.notes.kept.length<=32)(t k:Int)(x:Bs):F3_ (fS s) t k x=fS (A8_ s t k x):=by
 unfold F3_ A8_ lt;have :=r19add (n:=s.x.notes) (x:=⟨t,k,x⟩) h;show (⟨s.L_,s.place,s.x.book,fK s.x.C_,(Q7_ s.x.notes ⟨t,k,x⟩).1,s.x.seen,s.x.spent⟩:M_)=_;rw[this];rfl
theorem r23spend{s:E_}(h:Iv s){to' t:Int}(ht:U64 t):O8_ (fS s) to' t=(fS (A1_ s to' t).1,decide ((A1_ s to' t).2=0)):=by
 unfold O8_ A1_ lt lt1;dsimp only;have e1:Fx_ (fS s).p (fS s).at_ to'=S_ s.L_ s.place to':=Up_ _ _ _;have e2:O4_ (fS s).p t=Gh_ s.L_ t:=r06round ht h.1.2.1.2.2.1;rw[e1,e2];show (bif decide (S_ s.L_ s.place to'<0) then (fS s,false) else bif decide ((gt s.L_.grants (S_ s.L_ s.place to').toNat).budget<=(bif decide ((A8.get s.x.spent (S_ s.L_ s.place to').toNat).round=Gh_ s.L_ t) then (A8.get s.x.spent (S_ s.L_ s.place to').toNat).count else 0)) then (fS s,false) else (F3_ (fS ⟨⟨s.x.book,s.x.C_,s.x.notes,s.x.seen,A8.set s.x.spent ⟨Gh_ s.L_ t,(bif decide ((A8.get s.x.spent (S_ s.L_ s.place to').toNat).round=Gh_ s.L_ t) then (A8.get s.x.spent (S_ s.L_ s.place to').toNat).count else 0)+1⟩ (S_ s.L_ s.place to').toNat⟩,s.L_,s.place⟩) t 2 (gt s.L_.places to'.toNat).name,true))=_;by_cases c0:S_ s.L_ s.place to'<0;simp only[decide_eq_true c0,cond_true];rfl;simp only[decide_eq_false c0,cond_false];have hn:=λ(y:E_) (hy:y.x.notes=s.x.notes)=>Vv_ (s:=y) (by rw[hy];exact h.1.1.2.2.1) t 2 (gt s.L_.places to'.toNat).name;by_cases q:(A8.get s.x.spent (S_ s.L_ s.place to').toNat).round=Gh_ s.L_ t;simp only[decide_eq_true q,cond_true,A5,cond_false];by_cases c:(gt s.L_.grants (S_ s.L_ s.place to').toNat).budget<=(A8.get s.x.spent (S_ s.L_ s.place to').toNat).count;simp only[decide_eq_true c,cond_true];rfl;simp only[decide_eq_false c,cond_false];rw[<- q];exact Prod.ext (hn _ Y) Y;simp only[decide_eq_false q,cond_false,AT,cond_true];by_cases c:(gt s.L_.grants (S_ s.L_ s.place to').toNat).budget<=0;simp only[decide_eq_true c,cond_true];rfl;simp only[decide_eq_false c,cond_false];exact Prod.ext (hn _ Y) Y
theorem iv_spend{s:E_}(h:Iv s)(to' t:Int):Iv (A1_ s to' t).1:=by
 have :=spend_ok (to':=to') (t:=t) h.1;refine⟨this.1,?_,?_⟩;rw[this.2];exact h.2.1;rw[this.2];exact h.2.2
theorem r23due{own tick life:Int}(ho:0<=own)(ht:U64 tick)(hl:U64 life):Oj_ own tick life=Jd_ own tick life:=by
 unfold Oj_ Jd_;have⟨t1,t2⟩:=ht;have⟨l1,l2⟩:=hl;have hw1:A0 .u64 (18446744073709551615-tick)=18446744073709551615-tick:=Cp_ qX qX;rw[hw1];have hc:decide (A0 .u64 (tick+life)<tick) = decide (18446744073709551615-tick<life):=by
   by_cases q:18446744073709551615-tick<life
   . have :A0 .u64 (tick+life)=tick+life-18446744073709551616:=by rw[FB];omega
     rw[decide_eq_true q,this,decide_eq_true qX]
   . have :A0 .u64 (tick+life)=tick+life:=Cp_ qX qX
     rw[decide_eq_false q,this,decide_eq_false qX]
 rw[hc]
 cases (decide (life=0)) || decide (18446744073709551615-tick<life) with
 |true=>rfl
 |false=>
   simp only[cond_false]
   by_cases q:own=0
   . rw[decide_eq_true q,q];rfl
   . rw[decide_eq_false q,decide_eq_true (show 0<own by omega)]
     simp only[AW,cond_false]
     by_cases q2:own<A0 .u64 (tick+life)
     . rw[decide_eq_true q2,cond_true,GU,if_pos qX]
     . rw[decide_eq_false q2,cond_false,GU]
       by_cases q3:own<=A0 .u64 (tick+life)
       . rw[if_pos q3];omega
       . rw[if_neg q3]
def TqP(s:E_)(m:Mail)(tick:Int)(r:List Bs×List Bs×Int)(R:M_×List Er_×Int×Int)(C:E_×List Er_×Int×Int):Prop:=
 (R.2.2.2≠0/\C=(s,[],0,R.2.2.2))\/(R.2.2.2=0/\∃ y,Iv y/\y.L_=s.L_/\y.place=s.place/\y.x.book=s.x.book/\R.1=fS y/\C=Bp_ s m tick r R.2.1 r.2.1 R.2.2.1 y)
theorem toq0{s:E_}{m:Mail}{tick:Int}{r:List Bs×List Bs×Int}(ht:U64 tick)(hm:Wf m):∀ (t:List Bs) (gone:List Er_) (n:Int) (x:E_),Iv x->x.L_=s.L_->x.place=s.place->x.x.book=s.x.book->TqP s m tick r (Dv_ ⟨0,m.Al_,m.key,m.head,m.body,m.due,m.hops⟩ tick t gone n (fS x)) (Bf_ s m tick r t gone n x)
 |[],gone,n,x,h,h1,h2,h3=> .inr ⟨rfl,x,h,h1,h2,h3,rfl,rfl⟩
 |q::t,gone,n,x,h,h1,h2,h3=>by
   unfold Dv_ Bf_ lt
   dsimp only
   have ef:Dk_ (fS x).C_ q=I_ x.x.C_ q:=Oi_ _ _
   rw[ef]
   unfold Aj_ lt
   dsimp only
   rcases at_c x.x.C_ q with e|⟨i,e,hi⟩
   . simp only[decide_eq_true e,cond_true,AT]
     exact toq0 ht hm t gone n x h h1 h2 h3
   . simp only[e,decide_eq_false (show ¬(i:Int)<0 by omega),cond_false,A5,A7]
     have hl:(gt (fS x).C_.rows i).q.life=(gt x.x.C_.rows i).q.life:=by
       show (gt (fK x.x.C_).rows i).q.life=_
       rw[gt_f hi];rfl
     rw[hl]
     have hlife:U64 (gt x.x.C_.rows i).q.life:=(h.2.2.2.1 _ (Gw_ hi)).2.1
     rw[r23due hm.1.2.1.1 ht hlife]
     generalize hdue:Jd_ m.due tick (gt x.x.C_.rows i).q.life=due
     have hm2:Wf ⟨0,m.Al_,m.key,m.head,m.body,due,m.hops⟩:=by
       have :=cloG.wd (t:=tick) (l:=(gt x.x.C_.rows i).q.life) hm
       rw[hdue] at this;exact this
     have hp:S9_ (fS x).C_ q ⟨0,m.Al_,m.key,m.head,m.body,due,m.hops⟩=_:=r21put (k:=x.x.C_) (n:=q) h.1.1.2.1 h.2.1 h.2.2 hm2
     rw[hp]
     have hk:=Xv_ (s:=x.x.C_) (n:=q) (m:=⟨0,m.Al_,m.key,m.head,m.body,due,m.hops⟩) h.1.1.2.1 hm.1.2.2.1
     have hg:=(cloG.kp (n:=q) (m:=⟨0,m.Al_,m.key,m.head,m.body,due,m.hops⟩) h.1.1.2.1 hm2 h.2.2).1
     have hr:=cloB.kp (n:=q) (m:=⟨0,m.Al_,m.key,m.head,m.body,due,m.hops⟩) h.1.1.2.1 h.2.1
     generalize A6_ x.x.C_ q ⟨0,m.Al_,m.key,m.head,m.body,due,m.hops⟩=v at hk hg hr ⊢
     by_cases e4:v.2.2.2=0
     . simp only[e4,decide_true,A5,cond_false]
       have hx:=h.C_ hk.1 hr hg
       cases decide (v.2.2.1.Al_=[]) with
       |true=>exact toq0 ht hm t gone (n+1) _ hx h1 h2 h3
       |false=>exact toq0 ht hm t (gone++[⟨q,v.2.2.1⟩]) (n+1) _ hx h1 h2 h3
     . simp only[decide_eq_false e4,AT,cond_true]
       exact .inl ⟨e4,rfl⟩
theorem sendl1{s:E_}{m:Mail}{tick:Int}{r:List Bs×List Bs×Int}{r1:M_×List Er_×Int×Int}(ht:U64 tick)(hm:Wf m){i:Nat}(hi:Gc_ s.x.book m.Al_=i)(hs:D7_ s.x.book.Ae_ m.Al_=some (gt s.x.book.Ae_ i)):∀ (t:List Bs) (n:Int) (x:E_),Iv x->x.L_=s.L_->x.place=s.place->x.x.book=s.x.book ->
   I9_ (fS s) m tick r r1 t n (fS x)=(fS (Bp_ s m tick r r1.2.1 t n x).1,(Bp_ s m tick r r1.2.1 t n x).2)
 |[],n,x,_,_,_,_=>rfl
 |q::t,n,x,h,h1,h2,h3=>by
   unfold I9_ Bp_ lt
   dsimp only
   have e1:Ku_ (fS s).p q=J_ x.L_ q:=by rw[h1];exact r05find
   have e2:(gt (fS s).book.Ae_ (Gc_ (fS s).book m.Al_).toNat).sort=((D7_ s.x.book.Ae_ m.Al_).getD X_.zero).sort:=by
     show (gt s.x.book.Ae_ (Gc_ s.x.book m.Al_).toNat).sort=_
     rw[hi,hs,A7,BJ]
   rw[e1,e2]
   have key:∀ y:E_,Iv y->y.L_=s.L_->y.place=s.place->y.x.book=s.x.book ->
       (bif !decide ((Jr_ (fS y).C_ (J_ x.L_ q) ⟨0,m.Al_,m.key,m.head,m.body,m.due,m.hops⟩).2=0) then
         (fS s,([]:List Er_),(0:Int),(Jr_ (fS y).C_ (J_ x.L_ q) ⟨0,m.Al_,m.key,m.head,m.body,m.due,m.hops⟩).2)
       else I9_ (fS s) m tick r r1 t (n+1) ⟨(fS y).p,(fS y).at_,(fS y).book,(Jr_ (fS y).C_ (J_ x.L_ q) ⟨0,m.Al_,m.key,m.head,m.body,m.due,m.hops⟩).1,(fS y).notes,(fS y).seen,(fS y).spent⟩) =
       (λc:E_×List Er_×Int×Int=>(fS c.1,c.2)) (bif !decide ((Ba_ y.x.C_ (J_ x.L_ q) ⟨0,m.Al_,m.key,m.head,m.body,m.due,m.hops⟩).2=0) then
         (s,[],0,(Ba_ y.x.C_ (J_ x.L_ q) ⟨0,m.Al_,m.key,m.head,m.body,m.due,m.hops⟩).2)
       else Bp_ s m tick r r1.2.1 t (n+1) ⟨⟨y.x.book,(Ba_ y.x.C_ (J_ x.L_ q) ⟨0,m.Al_,m.key,m.head,m.body,m.due,m.hops⟩).1,y.x.notes,y.x.seen,y.x.spent⟩,y.L_,y.place⟩):=by
     intro y hy g1 g2 g3
     have hwm:Wf ⟨0,m.Al_,m.key,m.head,m.body,m.due,m.hops⟩:=cloG.wr hm
     have hr:Jr_ (fS y).C_ (J_ x.L_ q) ⟨0,m.Al_,m.key,m.head,m.body,m.due,m.hops⟩=_:=r21raise (k:=y.x.C_) (p:=J_ x.L_ q) hy.1.1.2.1 (kw_of hy.2.2) hwm.2
     rw[hr]
     have hk:=T6_ (s:=y.x.C_) (p:=J_ x.L_ q) (m:=⟨0,m.Al_,m.key,m.head,m.body,m.due,m.hops⟩) hy.1.1.2.1
     have hg:=cloG.ks (p:=J_ x.L_ q) hwm hy.2.2
     have hb:=cloB.ks (p:=J_ x.L_ q) (m:=⟨0,m.Al_,m.key,m.head,m.body,m.due,m.hops⟩) hy.2.1
     generalize Ba_ y.x.C_ (J_ x.L_ q) ⟨0,m.Al_,m.key,m.head,m.body,m.due,m.hops⟩=v at hk hg hb ⊢
     dsimp only
     cases decide (v.2=0) with
     |false=>rfl
     |true=>exact sendl1 ht hm hi hs t (n+1) _ (hy.C_ hk.1 hb hg) g1 g2 g3
   by_cases c:((D7_ s.x.book.Ae_ m.Al_).getD X_.zero).sort=4
   . rw[decide_eq_true c]
     simp only[cond_true]
     rw[r23spend h ht]
     have hsp:=iv_spend h (J_ x.L_ q) tick
     have hks:(A1_ x (J_ x.L_ q) tick).1.L_=x.L_/\(A1_ x (J_ x.L_ q) tick).1.place=x.place/\(A1_ x (J_ x.L_ q) tick).1.x.book=x.x.book:=by
       unfold A1_ lt
       let Q:E_×Int->Prop:=λr=>r.1.L_=x.L_/\r.1.place=x.place/\r.1.x.book=x.x.book
       refine bt (P:=Q) (λ_=>⟨rfl,rfl,rfl⟩) λ_=>?_
       exact lt1E (P:=Q) (λ_=>True) Z λ_ _=>bt (P:=Q) (λ_=>⟨rfl,rfl,rfl⟩) λ_=>⟨rfl,rfl,rfl⟩
     have herr:(A1_ x (J_ x.L_ q) tick).2≠0->(A1_ x (J_ x.L_ q) tick).2=19:=by
       unfold A1_ lt
       let Q:E_×Int->Prop:=λr=>r.2≠0->r.2=19
       refine bt (P:=Q) (λ_ _=>rfl) λ_=>?_
       exact lt1E (P:=Q) (λ_=>True) Z λ_ _=>bt (P:=Q) (λ_ _=>rfl) λ_ h=>(h Y).elim
     generalize A1_ x (J_ x.L_ q) tick=v at hsp hks herr ⊢
     by_cases e:v.2=0
     . simp only[e,decide_true,A5,cond_false]
       exact key v.1 hsp (hks.1.trans h1) (hks.2.1.trans h2) (hks.2.2.trans h3)
     . have :=herr e
       simp only[this]
       rfl
   . rw[decide_eq_false c]
     simp only[cond_false]
     exact key x h h1 h2 h3
theorem r23send{s:E_}{m:Mail}{tick:Int}(ht:U64 tick)(h:Iv s)(hb:BkB s.x.book)(hm:Wf m)(he:Dz_ m.head=0):Pz_ (fS s) m tick=(fS (Q_ s m tick).1,(Q_ s m tick).2):=by
 unfold Pz_ Q_ lt;dsimp only;have hl:Jp_ (fS s).book m.Al_ m.key m.head=By_ s.x.book m.Al_ m.key m.head:=r14leads he hb;rw[hl];generalize hr:By_ s.x.book m.Al_ m.key m.head=r;by_cases e:r.2.2=0
 . simp only[e,decide_true,A5,cond_false]
   rcases shop_c s.x.book m.Al_ with ⟨c1,c2⟩|⟨i,c1,hl2,c2⟩
   . exfalso
     unfold By_ at hr
     rw[c2] at hr
     rw[<- hr] at e
     cases e
   . unfold L9_
     have hq:=toq0 (s:=s) (m:=m) (r:=r) ht hm r.1 [] 0 s h Y Y Y
     generalize Dv_ ⟨0,m.Al_,m.key,m.head,m.body,m.due,m.hops⟩ tick r.1 [] 0 (fS s)=R at hq ⊢
     rcases hq with ⟨g1,g2⟩|⟨g1,y,g2,g3,g4,g5,g6,g7⟩
     rw[decide_eq_false g1,g2];rfl
     rw[decide_eq_true g1,g6,g7]
     simp only[A5,cond_false]
     exact sendl1 (r1:=R) ht hm c1 c2 r.2.1 R.2.2.1 y g2 g3 g4 g5
 simp only[decide_eq_false e,AT,cond_true]
theorem has_bit{a:Dc_}(h:0<=a.Td_/\a.Td_<=4294967295){i:Nat}(hi:i<32):Mh_ a (i:Int)=(BitVec.ofInt 32 a.Td_).getLsbD i:=by
 unfold Mh_;have h1:min ((i:Int)).toNat (AO .u32)=i:=by
   show min ((i:Int)).toNat 32=i
   omega
 rw[h1];obtain⟨n,hn⟩:∃ n:Nat,a.Td_=n:=⟨a.Td_.toNat,by omega⟩;rw[hn] at h ⊢;have h2:(AC 32 (n:Int)).toNat=n:=by
   rw[BitVec.toNat_ofInt]
   omega
 rw[BitVec.getLsbD,h2,Nat.testBit_eq_decide_div_mod_eq];have h3:GC (n:Int) (2 ^ i)=((n/2 ^ i:Nat):Int):=by
   rw[Int.fdiv_eq_ediv_of_nonneg _ (by exact C9 (Int.pow_pos qZ))]
   rw[Int.natCast_ediv,Int.natCast_pow]
   rfl
 rw[h3];by_cases q:n/2 ^ i%2=1;exact tJ;exact tH
theorem under0(a b:Dc_):∀ (f i:Nat),32-i<f->i<=32->(I5_ a b f i=true↔∀ j,i<=j->j<32->(Mh_ a (j:Int)&&!Mh_ b (j:Int))=false)
 |0,i,h,_=>by omega
 |f+1,i,h,hi=>by
   unfold I5_
   by_cases q:i<32
   . rw[decide_eq_true (show (i:Int)<32 by omega),cond_true]
     cases e:(Mh_ a (i:Int)&&!Mh_ b (i:Int)) with
     |true=>
       rw[cond_true]
       constructor
       . intro h;cases h
       . intro h;rw[h i (AX i) q] at e;cases e
     |false=>
       rw[cond_false,under0 a b f (i+1) qX qX]
       constructor
       . intro h j h1 h2
         by_cases q2:j=i
         . subst q2;exact e
         . exact h j qX h2
       . intro h j h1 h2;exact h j qX h2
   . rw[decide_eq_false (show ¬(i:Int)<32 by omega),cond_false]
     constructor
     . intro _ j h1 h2;omega
     . intro _;rfl
def LbOk(a:Dc_):Prop:=(0<=a.Td_/\a.Td_<=4294967295)/\0<=a.level/\a.level<=255
theorem r03under{a b:Dc_}(ha:LbOk a)(hb:LbOk b):O3_ a b=Gn_ a b:=by
 unfold O3_ Gn_;by_cases q:a.level<=b.level;rw[decide_eq_true q,decide_eq_false (show ¬b.level<a.level by omega),cond_false,AW];have hu:=under0 a b (32-0+1) 0 qX qX;have hx:∀ X:BitVec 32,A0 .u32 (X.toNat:Int)=(X.toNat:Int):=λX=>by
   have :=X.isLt
   rw[IntKind.wrap_u32]
   omega
 show _ = decide (A0 .u32 ((AC 32 a.Td_ &&& ~~~ AC 32 b.Td_).toNat:Int)=0);rw[hx];have hz:((AC 32 a.Td_ &&& ~~~ AC 32 b.Td_).toNat:Int)=0↔∀ j:Nat,0<=j->j<32->(Mh_ a (j:Int)&&!Mh_ b (j:Int))=false:=by
   constructor
   . intro h j _ hj
     have h0:(AC 32 a.Td_ &&& ~~~ AC 32 b.Td_)=0#32:=by
       apply BitVec.eq_of_toNat_eq
       simp only[BitVec.toNat_ofNat]
       omega
     have :=congrArg (λX:BitVec 32=>X.getLsbD j) h0
     simp only[F4,F5,EY] at this
     rw[has_bit ha.1 hj,has_bit hb.1 hj]
     simpa [hj] using this
   . intro h
     have h0:(AC 32 a.Td_ &&& ~~~ AC 32 b.Td_)=0#32:=by
       apply BitVec.eq_of_getLsbD_eq
       intro j hj
       have :=h j (B5 j) hj
       rw[has_bit ha.1 hj,has_bit hb.1 hj] at this
       simp only[F4,F5,EY]
       simpa [hj] using this
     rw[h0];rfl
 by_cases q2:((AC 32 a.Td_ &&& ~~~ AC 32 b.Td_).toNat:Int)=0;rw[decide_eq_true q2];exact hu.2 (hz.1 q2)
 . rw[decide_eq_false q2]
   cases e:I5_ a b (32-0+1) 0 with
   |false=>rfl
   |true=>exact (q2 (hz.2 (hu.1 e))).elim
 rw[decide_eq_false q,decide_eq_true (show b.level<a.level by omega)];rfl
theorem r05flows{p:H_}(hL:∀ y∈p.places,LbOk y.label){a b:Int}:Kv_ p a b=Bs_ p a b:=by
 unfold Kv_ Bs_ B2_ D3_;by_cases ha:0<=a/\a<p.places.length;by_cases hb:0<=b/\b<p.places.length;rw[r03under (hL _ (Gw_ qX)) (hL _ (Gw_ qX))];rw[decide_eq_true ha.1,decide_eq_true ha.2,decide_eq_true hb.1,decide_eq_true hb.2,decide_eq_true (show a<=(p.places.length:Int)-1 by omega),decide_eq_true (show b<=(p.places.length:Int)-1 by omega)];simp;by_cases q:0<=b;rw[decide_eq_false (show ¬b<(p.places.length:Int) by omega),decide_eq_false (show ¬b<=(p.places.length:Int)-1 by omega)];simp;rw[decide_eq_false q];simp;by_cases q:0<=a;rw[decide_eq_false (show ¬a<(p.places.length:Int) by omega),decide_eq_false (show ¬a<=(p.places.length:Int)-1 by omega)];simp;rw[decide_eq_false q];simp
def Wh(m:Mail):Prop:=Wf m/\Dz_ m.head=0
theorem he_0:Dz_ ([]:List Pair)=0:=by decide +kernel
theorem he_it{n:Int}{x:F_}(h:ItF n x):Dz_ x.P_.head=0:=(Ix_ h.1.2.2).2.2.1
theorem he_gt{n m:Int}{l:List F_}(h:LG n m l){k:Nat}:Dz_ (gt l k).P_.head=0:=by
 by_cases q:k<l.length;exact he_it (lg_gt h q);have :gt l k=default:=by unfold gt;rw[AB,EX qX];rfl
 rw[this];exact he_0
theorem he_told{n m:Int}{l:Ar_}(h:LG n m l.items){k:Int}:Dz_ (C8_ l k).1.head=0:=by
 unfold C8_ lt;let Q:Mail×Bool->Prop:=λr=>Dz_ r.1.head=0;exact bt (P:=Q) (λ_=>he_0) λ_=>he_gt h
theorem he_late0(t:Int):∀ (l:List Fe_) (n:Int),(∀ r∈l,RG n r)->Dz_ (Bi_ t l).2.1.head=0
 |[],_,_=>he_0
 |y::l,n,h=>by
   unfold Bi_ lt
   let Q:Bs×Mail×Bool->Prop:=λr=>Dz_ r.2.1.head=0
   refine bt (P:=Q) (λ_=>?_) λ_=>he_late0 t l n λr hr=>h r (by simp[hr])
   unfold Eb_ lt
   exact he_told (h y pC).2.2
theorem he_rem{k:G_}{n:Bs}{i:Int}(h:KG k):Dz_ (Ab_ k n i).2.1.P_.head=0:=by
 have ha:=at_b k n;unfold Ab_ lt;let Q:G_×F_×Int->Prop:=λr=>Dz_ r.2.1.P_.head=0;refine bt (P:=Q) (λ_=>he_0) λe=>?_;simp only[decide_eq_false_iff_not] at e;have hl:=(V6_ h (i:=(I_ k n).toNat) qX).2.2;unfold Ap_ lt;let Q2:Ar_×F_×Int->Prop:=λr=>Dz_ r.2.1.P_.head=0;exact bt (P:=Q2) (λ_=>he_0) λ_=>he_gt hl
theorem he_put{k:G_}{n:Bs}{m:Mail}(h:KG k):Dz_ (A6_ k n m).2.2.1.head=0:=by
 have ha:=at_b k n;unfold A6_ lt;let Q:G_×Int×Mail×Int->Prop:=λr=>Dz_ r.2.2.1.head=0;refine bt (P:=Q) (λ_=>he_0) λe1=>bt (P:=Q) (λ_=>he_0) λe2=>bt (P:=Q) (λ_=>he_0) λe3=>?_;simp only[decide_eq_false_iff_not] at e1;have hl:=(V6_ h (i:=(I_ k n).toNat) qX).2.2;refine lp2E (P:=Q) (λq=>Dz_ q.2.head=0) ?_ λx x1 hx=>?_;refine bt (P:=LoP _ _) (λc=>bt (P:=LoP _ _) (λ_=>he_0) λc2=>?_) λc=>he_0;show Dz_ (Au_ _).1.head=0;unfold Au_ lt;exact he_told hl;exact bt (P:=Q) (λ_=>he_0) λ_=>bt (P:=Q) (λ_=>he_0) λ_=>hx
def KH(k:G_):Prop:=RoB k/\KG k
theorem cloH:Clw U64 Wh KH (λ_=>True) where
 kp:=λhs hm h=>⟨⟨cloB.kp hs h.1,(cloG.kp hs hm.1 h.2).1⟩,(cloG.kp hs hm.1 h.2).2,he_put h.2⟩
 kl:=λh=>⟨cloB.kl h.1,cloG.kl h.2⟩
 kr:=λh=>⟨⟨cloB.kr h.1,(cloG.kr h.2).1⟩,(cloG.kr h.2).2,he_rem h.2⟩
 kb:=λh=>⟨cloB.kb h.1,cloG.kb h.2⟩
 ks:=λhm h=>⟨cloB.ks h.1,cloG.ks hm.1 h.2⟩
 kw:=λhs h=>⟨cloB.kw hs h.1,cloG.kw hs h.2⟩
 kt:=λh=>⟨cloG.kt h.2,he_late0 _ _ _ h.2.2.1⟩
 na:=λ_ _ _=>trivial
 wd:=λh=>⟨cloG.wd h.1,h.2⟩
 wr:=λh=>⟨cloG.wr h.1,h.2⟩
 wb:=λh=>⟨cloG.wb h.1,h.2⟩
 wp:=λh=>⟨cloG.wp h.1,h.2⟩
theorem kw_self{s:E_}(h:KH s.x.C_):Kw U64 KH (λ_=>True) s s:=⟨rfl,rfl,rfl,h,trivial,rfl,λ_=>id⟩
theorem Iv.k{s:E_}(h:Iv s):KH s.x.C_:=h.2
theorem queue_c(k:G_)(n:Bs):(I_ k n<0/\(Aj_ k n)=(⟨[],0,0,[]⟩,false))\/∃ i:Nat,I_ k n=i/\i<k.rows.length/\Aj_ k n=((gt k.rows i).q,true):=by
 rcases at_c k n with e|⟨i,e,hi⟩
 refine .inl ⟨e,?_⟩;unfold Aj_ lt;dsimp only;exact tI;refine .inr ⟨i,e,hi,?_⟩;unfold Aj_ lt;dsimp only;rw[e,decide_eq_false qX];rfl
theorem gt_drop{α:Type}[Inhabited α]{l t:List α}{i:Nat}(h:l.drop i=t):gt l i=gt t 0:=by
 subst h;simp[gt,AB]
theorem bury0{tick:Int}(ht:U64 tick):∀ (f:Nat) (gone g:List Er_) (i:Nat) (lost:Int) (x:E_),g.drop i=gone->Wd_ gone lost x->(∀ y∈gone,Wh y.P_)->Iv x->BkB x.x.book->wtk x.x.C_+wto gone<f->Ig_ tick f g lost (i:Int) (fS x)=(fS (Bt_ tick f gone lost x).1,(Bt_ tick f gone lost x).2)
 |0,_,_,_,_,_,_,_,_,_,_,h=>by omega
 |f+1,gone,g,i,lost,x,hd,hI,hw,hx,hb,hf=>by
   unfold Ig_ Bt_ lt
   dsimp only
   have hlen:g.length-i=gone.length:=by rw[<- hd,D5]
   by_cases c:0<gone.length
   . rw[decide_eq_true (show (i:Int)<(g.length:Int) by omega),decide_eq_true (show (0:Int)<(gone.length:Int) by omega)]
     simp only[cond_true,A7]
     have hg:gt g i=gt gone 0:=gt_drop hd
     have hd1:g.drop (i+1)=gone.drop 1:=by rw[<- hd,BZ]
     have e1:Dk_ (fS x).C_ (gt gone 0).queue=I_ x.x.C_ (gt gone 0).queue:=Oi_ _ _
     have hw0:Wh (gt gone 0).P_:=hw _ (Gw_ c)
     have hwd:∀ y∈gone.drop 1,Wh y.P_:=λy q=>hw y (AP q)
     have ia:(i:Int)+1=((i+1:Nat):Int):=by omega
     simp only[hg,e1,ia]
     rcases queue_c x.x.C_ (gt gone 0).queue with ⟨q1,q2⟩|⟨j,q1,hj,q2⟩
     . rw[decide_eq_true q1,q2]
       simp only[EQ,decide_true,cond_true]
       exact bury0 ht f _ g (i+1) lost x hd1 (S0_ hI c) hwd hx hb (Vz_ c hf)
     . have e2:(gt (fS x).C_.rows j).q=(gt x.x.C_.rows j).q:=by
         show (gt (fK x.x.C_).rows j).q=_
         rw[gt_f hj];rfl
       rw[q1,q2,decide_eq_false (show ¬(j:Int)<0 by omega),CY,A7,e2]
       cases cd:decide ((gt x.x.C_.rows j).q.dead=[]) with
       |true=>
         simp only[cond_true]
         exact bury0 ht f _ g (i+1) lost x hd1 (S0_ hI c) hwd hx hb (Vz_ c hf)
       |false=>
         simp only[cond_false]
         have hm:MlOk (gt gone 0).P_:=hI.2.1 _ (Gw_ c)
         have hno:=Ko_ (s:=x) (t:=tick) (k:=1) (x:=(gt gone 0).queue) hI.1
         have key:Ig_ tick f g (lost+1) ((i+1:Nat):Int) (F3_ (fS x) tick 1 (gt gone 0).queue)=(fS (Bt_ tick f (gone.drop 1) (lost+1) (A8_ x tick 1 (gt gone 0).queue)).1,(Bt_ tick f (gone.drop 1) (lost+1) (A8_ x tick 1 (gt gone 0).queue)).2):=by
           rw[Vv_ hI.1.1.2.2.1]
           exact bury0 ht f _ g (i+1) (lost+1) _ hd1 (Va_ hI hno.1 hno.2 c) hwd ⟨hno.1,hx.2⟩ hb (Z7_ hno.2 c hf)
         unfold K_
         by_cases h4:(gt gone 0).P_.hops<4
         . have hwr:A0 .u8 ((gt gone 0).P_.hops+1)=(gt gone 0).P_.hops+1:=by
             have :=hm.2.1
             exact tG
           have h4':¬4<A0 .u8 ((gt gone 0).P_.hops+1):=by rw[hwr];omega
           rw[decide_eq_true h4,decide_eq_false h4']
           simp only[cond_true,CY,lt4]
           have hwm:Wh ⟨(gt gone 0).P_.id,(gt x.x.C_.rows j).q.dead,(gt gone 0).P_.key,(gt gone 0).P_.head,(gt gone 0).P_.body,0,A0 .u8 ((gt gone 0).P_.hops+1)⟩:=cloH.wb (m:=(gt gone 0).P_) hw0
           rw[r23send ht hx hb hwm.1 hwm.2]
           have hs:=Lt_ (s:=x) (m:=⟨(gt gone 0).P_.id,(gt x.x.C_.rows j).q.dead,(gt gone 0).P_.key,(gt gone 0).P_.head,(gt gone 0).P_.body,0,A0 .u8 ((gt gone 0).P_.hops+1)⟩) (tick:=tick) hI.1 Nq_
           have hsw:=send_w cloH (tick:=tick) ht hI.1 (kw_self hx.k) hwm Nq_
           generalize hv:Q_ x ⟨(gt gone 0).P_.id,(gt x.x.C_.rows j).q.dead,(gt gone 0).P_.key,(gt gone 0).P_.head,(gt gone 0).P_.body,0,A0 .u8 ((gt gone 0).P_.hops+1)⟩ tick=v at hs hsw ⊢
           dsimp only
           by_cases ev:v.2.2.2=0
           . rw[decide_eq_true ev]
             simp only[A5,cond_false]
             refine bury0 ht f _ (g++v.2.1) (i+1) lost v.1 ?_ (Vb_ hI hs.1 hs.2.1 c Y hm h4' hs.2.2 Y ev) (λy q=>?_) ⟨hs.1,hsw.1.k⟩ (by rw[hsw.1.bo];exact hb) (W4_ c hf Y hm h4' hs.2.2 Y ev)
             . rw[BH qX,hd1,BH qX]
             . rcases List.mem_append.1 (AP q) with q|q
               . exact hw y q
               . exact hsw.2 y q
           . rw[decide_eq_false ev]
             simp only[AT,cond_true]
             exact key
         . have h5:4<A0 .u8 ((gt gone 0).P_.hops+1):=by
             have :=hm.2.1
             have :=hm.2.2.1
             exact tG
           rw[decide_eq_false h4,decide_eq_true h5]
           simp only[cond_false,EQ,cond_true,lt4]
           exact key
   . rw[decide_eq_false (show ¬(i:Int)<(g.length:Int) by omega),decide_eq_false (show ¬(0:Int)<(gone.length:Int) by omega)]
     rfl
theorem r23bury{x:E_}{gone:List Er_}{tick:Int}(ht:U64 tick)(hx:Iv x)(hb:BkB x.x.book)(hg:gone.length<=600/\∀ g∈gone,MlOk g.P_)(hw:∀ y∈gone,Wh y.P_):Mu_ (fS x) gone tick=(fS (Bj_ x gone tick).1,(Bj_ x gone tick).2):=by
 unfold Mu_ Bj_;have e:toK (fS x).C_=x.x.C_:=toK_f _;rw[e];exact bury0 ht _ gone gone 0 0 x Y (buryI0 hx.1 hg) hw hx hb (C2 _)
theorem do_q{s:E_}{d:T_}(he:Dl_ d=0)(hk:d.kind=2)(hz:(Bq_ s d).2=0):(Z_ s d).1=(Bq_ s d).1/\(Z_ s d).2.2=0:=by
 unfold Z_;have c:(!decide (Dl_ d=0))=false:=by rw[decide_eq_true he];rfl
 rw[c,cond_false,hk];unfold lt3 lt1 lt;grind
theorem do_sh{s:E_}{d:T_}(he:Dl_ d=0)(hk:d.kind=0\/d.kind=4)(hz:(Ao_ s d).2=0):(Z_ s d).1=(Ao_ s d).1/\(Z_ s d).2.2=0:=by
 unfold Z_;have c:(!decide (Dl_ d=0))=false:=by rw[decide_eq_true he];rfl
 rw[c,cond_false];unfold lt3 lt1 lt;grind
theorem do_queue{s:E_}{q:Aa_}(hc:Bm_ q=0)(hn:∀ r∈s.x.C_.rows,r.q.name≠q.name)(hl:s.x.C_.rows.length<8):(Z_ s (Xa_ q)).1=⟨⟨s.x.book,⟨s.x.C_.next,s.x.C_.bytes,s.x.C_.rows++[⟨q,⟨[]⟩⟩],s.x.C_.rises⟩,s.x.notes,s.x.seen,s.x.spent⟩,s.L_,s.place⟩:=by
 have hm:=make_fwd hc hn hl;have e:Bq_ s (Xa_ q)=(⟨⟨s.x.book,⟨s.x.C_.next,s.x.C_.bytes,s.x.C_.rows++[⟨q,⟨[]⟩⟩],s.x.C_.rises⟩,s.x.notes,s.x.seen,s.x.spent⟩,s.L_,s.place⟩,0):=by
   unfold Bq_
   have c1:decide ((Xa_ q).kind=2)=true:=rfl
   rw[c1,cond_true,lt,show (Xa_ q).queue=q from rfl,hm]
 rw[(do_q (dqueue_e hc) rfl pP).1,e]
theorem do_shop{s:E_}{x:X_}(h:Kh_ x=0)(hx:x.sort=4->0<=J_ s.L_ x.to'/\0<=S_ s.L_ s.place (J_ s.L_ x.to'))(hn:∀ y∈s.x.book.Ae_,y.name≠x.name)(hl:s.x.book.Ae_.length<8):(Z_ s (Sm_ x)).1=⟨⟨⟨s.x.book.Ae_++[x],s.x.book.binds⟩,s.x.C_,s.x.notes,s.x.seen,s.x.spent⟩,s.L_,s.place⟩/\(Z_ s (Sm_ x)).2.2=0:=by
 have hm:=mk_fwd h hn hl;have e:Ao_ s (Sm_ x)=(⟨⟨⟨s.x.book.Ae_++[x],s.x.book.binds⟩,s.x.C_,s.x.notes,s.x.seen,s.x.spent⟩,s.L_,s.place⟩,0):=by
   unfold Ao_
   have c1:decide ((Sm_ x).kind=0)=true:=rfl
   have c2:(Sm_ x).Al_=x:=rfl
   rw[c1,cond_true,c2]
   unfold lt
   dsimp only
   by_cases q:x.sort=4
   . have⟨h1,h2⟩:=hx q
     rw[decide_eq_true q,cond_true,decide_eq_false (show ¬J_ s.L_ x.to'<0 by omega),cond_false,decide_eq_false (show ¬S_ s.L_ s.place (J_ s.L_ x.to')<0 by omega),cond_false]
     show (_,_)=_
     rw[hm]
   . rw[decide_eq_false q,cond_false]
     show (_,_)=_
     rw[hm]
 have hd:=do_sh (s:=s) (dshop_e h) (.inl Y) pP;grind
theorem do_bind{s:E_}{y:R_}(hb:BiB y)(hd:BdG s.L_ s.place (s.x.C_.rows.map (·.q)) s.x.book.Ae_ y)(hs:C6_ y.Al_=0)(hq:y.up=false->(Aj_ s.x.C_ y.to').2=true)(hx:y∉s.x.book.binds)(hl:s.x.book.binds.length<32):(Z_ s (Om_ y)).1=⟨⟨⟨s.x.book.Ae_,s.x.book.binds++[y]⟩,s.x.C_,s.x.notes,s.x.seen,s.x.spent⟩,s.L_,s.place⟩/\(Z_ s (Om_ y)).2.2=0:=by
 have⟨⟨sh,g1,g2,g3⟩,g4,g5,_⟩:=hd;have hm:=bd_fwd g1 g2 g4 g3 hx hl;have e:Ao_ s (Om_ y)=(⟨⟨⟨s.x.book.Ae_,s.x.book.binds++[y]⟩,s.x.C_,s.x.notes,s.x.seen,s.x.spent⟩,s.L_,s.place⟩,0):=by
   unfold Ao_
   have c1:decide ((Om_ y).kind=0)=false:=rfl
   have c2:decide ((Om_ y).kind=1)=false:=rfl
   have c3:decide ((Om_ y).kind=5)=false:=rfl
   have c4:(Om_ y).bind=y:=rfl
   rw[c1,cond_false,c2,cond_false,c3,cond_false,c4]
   unfold lt lt1
   dsimp only
   cases hu:y.up with
   |true=>
     have⟨h1,h2⟩:=g5 hu
     rw[decide_eq_false (show ¬J_ s.L_ y.to'<0 by omega),h2]
     simp only[AW,A5,B6,cond_false]
     show (_,_)=_
     rw[hm]
   |false=>
     rw[hq hu]
     simp only[B6,AT,AW,A5,cond_false]
     show (_,_)=_
     rw[hm]
 have hd:=do_sh (s:=s) (dbind_e hb hs) (.inr Y) pP;grind
theorem rb0(r:RdR):∀ (t:List Aa_) (x:E_),(∀ q∈t,Bm_ q=0)->x.x.C_.rows.length+t.length<=8->((x.x.C_.rows.map (·.q)++t).map (·.name)).Nodup->∃ y:E_,Cj_ r t x=Bb_ r r.H8_ y/\y.L_=x.L_/\y.place=x.place/\y.x.book=x.x.book/\y.x.C_.rows.map (·.q)=x.x.C_.rows.map (·.q)++t
 |[],x,_,_,_=>⟨x,by rw[Cj_],rfl,rfl,rfl,by simp⟩
 |q::t,x,hc,hl,hn=>by
   simp only[A2] at hl
   have hnq:∀ y∈x.x.C_.rows,y.q.name≠q.name:=by
     grind
   have hd:=do_queue (s:=x) (hc q pC) hnq qX
   have⟨y,h1,h2,h3,h4,h5⟩:=rb0 r t (Z_ x (Xa_ q)).1 (λz hz=>hc z pS) (by rw[hd];simp;omega) (by rw[hd];simpa using hn)
   refine⟨y,?_,?_,?_,?_,?_⟩
   . rw[Cj_]
     exact h1
   . rw[h2,hd]
   . rw[h3,hd]
   . rw[h4,hd]
   grind
theorem rb1(r:RdR)(rest:List T_):∀ (t:List X_) (x:E_),(∀ s∈t,Kh_ s=0/\(s.sort=4->0<=J_ x.L_ s.to'/\0<=S_ x.L_ x.place (J_ x.L_ s.to')))->x.x.book.Ae_.length+t.length<=8->((x.x.book.Ae_++t).map (·.name)).Nodup->∃ y:E_,Bb_ r (t.map Sm_++rest) x=Bb_ r rest y/\y.L_=x.L_/\y.place=x.place/\y.x.book=⟨x.x.book.Ae_++t,x.x.book.binds⟩/\y.x.C_=x.x.C_
 |[],x,_,_,_=>⟨x,by simp,rfl,rfl,by simp,rfl⟩
 |s::t,x,hc,hl,hn=>by
   simp only[A2] at hl
   have hns:∀ y∈x.x.book.Ae_,y.name≠s.name:=by
     grind
   have⟨c1,c2⟩:=hc s pC
   have⟨d1,d2⟩:=do_shop (s:=x) c1 c2 hns qX
   have⟨y,h1,h2,h3,h4,h5⟩:=rb1 r rest t (Z_ x (Sm_ s)).1 (λz hz=>by rw[d1];exact hc z pS) (by rw[d1];simp;omega) (by rw[d1];simpa using hn)
   refine⟨y,?_,?_,?_,?_,?_⟩
   . rw[AG,CX,Bb_.eq_2]
     unfold lt
     dsimp only
     have hs:Jh_ (A0_ x).book (A0_ (Z_ x (Sm_ s)).1).book=false:=by
       rw[d1]
       unfold Jh_ A0_
       grind
     grind
   . rw[h2,d1]
   . rw[h3,d1]
   . rw[h4,d1];simp
   . rw[h5,d1]
theorem rb2(r:RdR):∀ (t:List R_) (x:E_),(∀ y∈t,BiB y/\BdG x.L_ x.place (x.x.C_.rows.map (·.q)) x.x.book.Ae_ y/\C6_ y.Al_=0)->x.x.book.binds.length+t.length<=32->(x.x.book.binds++t).Nodup->∃ y:E_,Bb_ r (t.map Om_) x=Bb_ r [] y/\y.x.book=⟨x.x.book.Ae_,x.x.book.binds++t⟩
 |[],x,_,_,_=>⟨x,by simp,by simp⟩
 |b::t,x,hc,hl,hn=>by
   simp only[A2] at hl
   have hns:b∉x.x.book.binds:=by
     grind
   have⟨c1,c2,c3⟩:=hc b pC
   have hq:b.up=false->(Aj_ x.x.C_ b.to').2=true:=by
     intro hu
     have⟨q,q1,q2⟩:=c2.2.2.2 hu
     have⟨w,w1,w2⟩:=List.mem_map.1 q1
     have :¬I_ x.x.C_ b.to'<0:=λhlt=>at_neg hlt w w1 (by rw[w2];exact q2)
     unfold Aj_
     rw[lt,decide_eq_false this]
     rfl
   have⟨d1,d2⟩:=do_bind (s:=x) c1 c2 c3 hq hns qX
   have⟨y,h1,h2⟩:=rb2 r t (Z_ x (Om_ b)).1 (λz hz=>by rw[d1];exact hc z pS) (by rw[d1];simp;omega) (by rw[d1];simpa using hn)
   refine⟨y,?_,?_⟩
   . rw[AG,Bb_.eq_2]
     unfold lt
     dsimp only
     have hs:Jh_ (A0_ x).book (A0_ (Z_ x (Om_ b)).1).book=false:=by
       rw[d1]
       unfold Jh_ A0_ Rn_
       grind
     grind
   grind
theorem shopOf_in{l:List X_}{n:Bs}{s:X_}(h:D7_ l n=some s):s∈l/\s.name=n:=by
 unfold D7_ at h;grind
theorem shopE_nm{s:X_}(h:Kh_ s=0):C6_ s.name=0:=by
 have :=dshop_e h;unfold Kh_ at h;grind
theorem book_fwd{p:H_}{k:Int}{x:Aq_}(hr:∀ r∈x.C_.rows,Bm_ r.q=0)(hl:x.C_.rows.length<=8)(hn:(x.C_.rows.map (·.q.name)).Nodup)(hs:x.book.Ae_.length<=8)(hb:x.book.binds.length<=32)(hB:BkB x.book)(hG:BkG p k (x.C_.rows.map (·.q)) x.book):A9_ (bkRd x) (Av_ p k) (Bk_ x.C_)=(x.book,true,bkRd x):=by
 have⟨g1,g2,g3,g4⟩:=hG;unfold A9_;rw[queues_eq];have⟨y,a1,a2,a3,a4,a5⟩:=rb0 (bkRd x) (x.C_.rows.map (·.q)) (Av_ p k) (λq hq=>by obtain⟨w,w1,rfl⟩:=List.mem_map.1 hq;exact hr w w1) (by simp[Av_,lt,Fc_,Cf_];exact hl) (by simpa [Av_,lt,Fc_,Cf_,Function.comp_def] using hn);have e1:(Av_ p k).L_=p:=rfl;have e2:(Av_ p k).place=k:=rfl;have e3:(Av_ p k).x.book=⟨[],[]⟩:=rfl;have e4:(Av_ p k).x.C_.rows=[]:=rfl;rw[e1] at a2;rw[e2] at a3;rw[e3] at a4;rw[e4,DQ,AN] at a5;have⟨z,b1,b2,b3,b4,b5⟩:=rb1 (bkRd x) (x.book.binds.map Om_) x.book.Ae_ y (λs h=>by rw[a2,a3];exact g3 s h) (by rw[a4];simp;exact hs) (by rw[a4];simpa using g1);rw[a2] at b2;rw[a3] at b3;rw[a4] at b4;simp only[AN] at b4
 have⟨w,c1,c2⟩:=rb2 (bkRd x) x.book.binds z (λb h=>by
   rw[b2,b3,b4,b5,a5]
   refine⟨hB.2 b h,g4 b h,?_⟩
   have⟨⟨s,s1,s2,s3⟩,_⟩:=g4 b h
   have⟨t1,t2⟩:=shopOf_in s1
   rw[<- t2]
   exact shopE_nm (g3 s t1).1) (by rw[b4];simp;exact hb) (by rw[b4];simpa using g2)
 rw[b4] at c2;simp only[AN] at c2;rw[a1];show Bb_ (bkRd x) (x.book.Ae_.map Sm_++x.book.binds.map Om_) y=_;rw[b1,c1,Bb_.eq_1];unfold lt A0_
 simp_all
def DdF(d:T_):Prop:=U64 d.tick/\(0<=d.code/\d.code<=255)/\0<=d.P_.hops/\0<=d.Al_.sort/\(∀ p∈d.bind.want,p.wf)/\Wf d.P_/\U64 d.queue.most/\U64 d.queue.life/\U64 d.number/\0<=d.frm
theorem deed_f1{d:T_}(h:PV.wfs (T_.pc d)):DdF d:=by
 have hw:=T_.pwf h;have⟨h1,h2,h3,h4,h5,h6,h7,h8,h9,h10,h11,h12,h13⟩:=hw;have ha:∀ p∈d.bind.want,p.wf:=λp hp=>Pair.pwf (h.2.2.2.2.2.2.2.2.2.2.2.2.2.1.2 p hp);have hb:∀ p∈d.P_.head,p.wf:=λp hp=>Pair.pwf (h.2.2.2.2.2.2.2.2.2.2.2.2.2.2.2.2.2.2.2.2.2.2.2.2.1.2 p hp);simp only[Mail.wf,Aa_.wf,X_.wf] at h12 h4 h3;exact⟨h2,h10,by omega,by omega,ha,⟨⟨⟨by omega,by omega⟩,⟨by omega,by omega⟩,by omega,by omega⟩,hb⟩,⟨by omega,by omega⟩,⟨by omega,by omega⟩,h11,by omega⟩
theorem deed_f{l:List T_}{k:Nat}{d:T_}(h:(PV.sl T_.pc l).wf)(hd:l[k]? = some d):DdF d:=deed_f1 (h.2 d (A1 hd))
structure Rt(p:H_)(k:Int)(s:E_):Prop where
 ok:StOk s
 b:StB s
 g:KG s.x.C_
 n:NtF s.x.notes
 bk:SbG s
 rk:Rk p k (max 0 (gt p.places k.toNat).bytes) s
theorem Rt.po{p:H_}{k:Int}{s:E_}(h:Rt p k s):s.L_=p:=h.rk.po
theorem Rt.pl{p:H_}{k:Int}{s:E_}(h:Rt p k s):s.place=k:=h.rk.pl
theorem a16_zero:∀ i,i<16->A16.get (⟨0,0,0,0,0,0,0,0,0,0,0,0,0,0,0,0⟩:A16_u64) i=0:=bw16 Y Y Y Y Y Y Y Y Y Y Y Y Y Y Y Y
theorem a8_zero:∀ i,i<8->A8.get (⟨aJ,aJ,aJ,aJ,aJ,aJ,aJ,aJ⟩:A8_SpentR) i=⟨0,0⟩:=by
 intro i hi
 match i,hi with
 |0,_=>rfl
 |1,_=>rfl
 |2,_=>rfl
 |3,_=>rfl
 |4,_=>rfl
 |5,_=>rfl
 |6,_=>rfl
 |7,_=>rfl
theorem kok_new(p:H_)(k:Int):KOk (max 0 (gt p.places k.toNat).bytes) (Av_ p k).x.C_:=by
 refine⟨rfl,?_⟩;show rz []+uz _ 16<=max 0 (gt p.places k.toNat).bytes;have h2:uz (Av_ p k).x.C_.rises 16=0:=by
   unfold Av_ lt Fc_ Cf_
   rfl
 rw[h2];show (0:Int)+0<=_;omega
theorem rt_new{p:H_}{k:Int}(hp:PoOk p)(hk:0<=k/\k<p.places.length)(hb:∀ y∈p.places,U64 y.base):Rt p k (Av_ p k):=by
 have hn:U64 (Av_ p k).x.C_.next :=hb _ (Gw_ (xs:=p.places) (k:=k.toNat) qX);have⟨h1,h2⟩:=newG hn
 exact ⟨Sy_ hp hk,newB p k,h1,h2,bkg_nil,⟨rfl,rfl,kok_new p k,λi hi=>by
   rw[show (Av_ p k).x.seen=⟨0,0,0,0,0,0,0,0,0,0,0,0,0,0,0,0⟩ from rfl,a16_zero i hi]
   exact u64_0,λi hi=>by
   have :=a8_zero i hi
   rw[show (Av_ p k).x.spent=⟨⟨0,0⟩,⟨0,0⟩,⟨0,0⟩,⟨0,0⟩,⟨0,0⟩,⟨0,0⟩,⟨0,0⟩,⟨0,0⟩⟩ from rfl,this]
   exact u64_0⟩⟩
theorem rt_do{p:H_}{k:Int}{s:E_}{d:T_}(h:Rt p k s)(hd:DdOk d)(hf:DdF d):Rt p k (Z_ s d).1:=by
 have⟨f1,f2,f3,f4,f5,f6,f7,f8,f9,f10⟩:=hf;have hg:=doG f1 f2 h.ok f3 f6 f7 f8 h.g h.n;exact⟨do_ok h.ok hd f3,doB f2 h.ok f3 f4 f5 h.b,hg.1,hg.2,doBk f1 f2 h.ok f3 h.bk,doK f1 f2 f9 h.ok f3 h.rk⟩
theorem rt_ptf{p:H_}{k:Int}{s:E_}(h:Rt p k s):PtF p k s.x:=by
 refine⟨im_st h.ok h.b,kf_of h.ok.1.2.1 h.b.2.1 h.g,h.n,h.rk.k.1,?_,h.rk.se,λi hi=>⟨h.rk.sp i hi,h.ok.1.2.2.2 i hi⟩⟩;have :=h.rk.k.2;have h2:=h.rk.k.1;unfold C3_;rw[Pm_];omega
theorem rt_read{p:H_}{k:Int}{s:E_}(h:Rt p k s):Ld_ (E0_ (A0_ s)) p k=(A0_ s,0):=by
 have hbk:=h.bk;unfold SbG at hbk;rw[h.po,h.pl] at hbk;exact iread_fwd (rt_ptf h) (book_fwd h.b.2.1 h.ok.1.2.1.1.1 h.ok.1.2.1.1.2.2 h.ok.1.1.1 h.ok.1.1.2.1 h.b.1 hbk)
theorem bury_len{s:E_}{m:Mail}{tick:Int}(hx:Iv s)(hm:Wh m):(Q_ s m tick).2.1.length<=600/\∀ g∈(Q_ s m tick).2.1,MlOk g.P_:=by
 have h1:=Lt_ (s:=s) (m:=m) (tick:=tick) hx.1 hm.1.1.2.2.1;have h2:=Mv_ (s:=s) (m:=m) (tick:=tick) hx.1;exact⟨by omega,h1.2.1⟩
theorem r23put{s:E_}{m:Mail}{tick:Int}(ht:U64 tick)(hx:Iv s)(hb:BkB s.x.book)(hm:Wh m):P1_ (fS s) m tick = bif !decide ((Q_ s m tick).2.2.2=0) then (fS s,⟨⟨⟨0,[],[],[],[],0,0⟩,false,false⟩,0,0⟩,(Q_ s m tick).2.2.2) else (fS (Bj_ (Q_ s m tick).1 (Q_ s m tick).2.1 tick).1,⟨⟨⟨0,[],[],[],[],0,0⟩,false,false⟩,(Q_ s m tick).2.2.1,(Bj_ (Q_ s m tick).1 (Q_ s m tick).2.1 tick).2⟩,0):=by
 unfold P1_ lt;rw[r23send ht hx hb hm.1 hm.2];dsimp only;have h1:=Lt_ (s:=s) (m:=m) (tick:=tick) hx.1 hm.1.1.2.2.1;have h2:=bury_len (tick:=tick) hx hm;have hw:=send_w cloH (tick:=tick) ht hx.1 (kw_self hx.k) hm hm.1.1.2.2.1;generalize Q_ s m tick=v at h1 h2 hw ⊢;rw[r23bury ht ⟨h1.1,hw.1.k⟩ (by rw[hw.1.bo];exact hb) h2 hw.2]
theorem r23settle{s:E_}{d:T_}(ht:U64 d.tick)(hx:Iv s)(hb:BkB s.x.book):O6_ (fS s) d=(fS (Cg_ s d).1,(Cg_ s d).2):=by
 unfold O6_ Cg_ lt;dsimp only;have e1:Sd_ (fS s).C_ d.name d.id=(fK (Bz_ s.x.C_ d.name d.id).1,(Bz_ s.x.C_ d.name d.id).2):=r21back;have e2:Gd_ (fS s).C_ d.name d.id=(fK (Ab_ s.x.C_ d.name d.id).1,(Ab_ s.x.C_ d.name d.id).2):=Uv_ _ _ _;rw[e1,e2];dsimp only;have hr:=Iq_ (n:=d.name) (id:=d.id) hx.1.stk;have hk:=cloH.kr (n:=d.name) (i:=d.id) hx.k;generalize Bz_ s.x.C_ d.name d.id=v;generalize Ab_ s.x.C_ d.name d.id=w at hr hk ⊢
 cases decide (v.2=0) with
 |false=>rfl
 |true=>
   simp only[A5,cond_false]
   cases decide (d.how=2) with
   |true=>rfl
   |false=>
     simp only[cond_false]
     cases decide (d.how=1) with
     |false=>rfl
     |true=>
       simp only[cond_true]
       have :=r23bury (x:=⟨⟨s.x.book,w.1,s.x.notes,s.x.seen,s.x.spent⟩,s.L_,s.place⟩) (gone:=[⟨d.name,w.2.1.P_⟩]) (tick:=d.tick) ht ⟨Co_ hx.1 hr.1,hk.1⟩ hb ⟨by simp,λg hg=>by rw[List.mem_singleton.1 hg];exact hr.2⟩ (λg hg=>by rw[List.mem_singleton.1 hg];exact hk.2)
       have e:(⟨(fS s).p,(fS s).at_,(fS s).book,fK w.1,(fS s).notes,(fS s).seen,(fS s).spent⟩:M_)=fS ⟨⟨s.x.book,w.1,s.x.notes,s.x.seen,s.x.spent⟩,s.L_,s.place⟩:=rfl
       rw[e,this]
theorem late0{t:Int}(ht:U64 t):∀ (f:Nat) (gone:List Er_) (x:E_),Iv x->BkB x.x.book->(∀ g∈gone,MlOk g.P_)->(∀ g∈gone,Wh g.P_)->gone.length+nik x.x.C_<=512->nik x.x.C_<f->Lq_ t f gone (Aw_ x.x.C_ t).1 (Aw_ x.x.C_ t).2.2 (fS x) (Aw_ x.x.C_ t).2.1=(fS (C5_ t f gone x).1,(C5_ t f gone x).2)
 |0,_,_,_,_,_,_,_,h=>by omega
 |f+1,gone,x,hx,hb,hg,hw,hl,hf=>by
   unfold Lq_ C5_ lt
   dsimp only
   obtain⟨r,hr⟩:∃ r,Aw_ x.x.C_ t=r:=⟨_,rfl⟩
   rw[hr]
   cases e:r.2.2 with
   |false=>
     simp only[cond_false,AT,cond_true]
     rw[r23bury ht hx hb ⟨by omega,hg⟩ hw]
   |true=>
     simp only[cond_true,A5,cond_false]
     have e2:Gd_ (fS x).C_ r.1 r.2.1.id=(fK (Ab_ x.x.C_ r.1 r.2.1.id).1,(Ab_ x.x.C_ r.1 r.2.1.id).2):=Uv_ _ _ _
     rw[e2]
     have hrm:=Iq_ (n:=r.1) (id:=r.2.1.id) hx.1.stk
     have hk:=cloH.kr (n:=r.1) (i:=r.2.1.id) hx.k
     have h1:=X9_ (gone:=gone) (g:=⟨r.1,r.2.1⟩) hx.1.stk hr e Y hl
     have h2:=Ya_ hx.1.stk hr e Y hf
     have hm1:MlOk r.2.1:=by rw[<- hr];exact T5_ hx.1.stk
     have hm2:Wh r.2.1:=by rw[<- hr];exact cloH.kt hx.k
     generalize Ab_ x.x.C_ r.1 r.2.1.id=w at hrm hk h1 h2 ⊢
     have :=late0 ht f (gone++[⟨r.1,r.2.1⟩]) ⟨⟨x.x.book,w.1,x.x.notes,x.x.seen,x.x.spent⟩,x.L_,x.place⟩ ⟨Co_ hx.1 hrm.1,hk.1⟩ hb (λg q=>by
       rcases List.mem_append.1 q with q|q
       . exact hg g q
       . rw[List.mem_singleton.1 q];exact hm1) (λg q=>by
       rcases List.mem_append.1 q with q|q
       . exact hw g q
       . rw[List.mem_singleton.1 q];exact hm2) h1 h2
     dsimp only
     rw[r21late hk.1.2]
     exact this
theorem r23late{s:E_}{t:Int}(ht:U64 t)(hx:Iv s)(hb:BkB s.x.book):P0_ (fS s) t=(fS (Eu_ s t).1,(Eu_ s t).2):=by
 unfold P0_ Eu_ lt;have e:toK (fS s).C_=s.x.C_:=toK_f _;have e1:Mt_ (fS s).C_ t=Aw_ s.x.C_ t:=r21late hx.2.2 _;rw[e,e1];exact late0 ht _ [] s hx hb (λ_ h=>by cases h) (λ_ h=>by cases h) (by have :=nik_r hx.1.stk;simpa using this) (C2 _)
theorem r23pull{s:E_}{d:T_}(ht:U64 d.tick)(hx:Iv s)(hb:BkB s.x.book)(hm:Wh d.P_)(h4:d.P_.hops<=4)(hL:∀ y∈s.L_.places,LbOk y.label):Ux_ (fS s) d=(fS (Cv_ s d).1,(Cv_ s d).2):=by
 unfold Ux_ Cv_ lt;dsimp only;have e1:Kv_ (fS s).p d.frm (fS s).at_=Bs_ s.L_ d.frm s.place:=r05flows hL;have e2:Fx_ (fS s).p d.frm (fS s).at_=S_ s.L_ d.frm s.place:=Up_ _ _ _;rw[e1,e2];have e3:((fS s).p.places.length:Int)=(s.L_.places.length:Int):=rfl;rw[e3]
 cases decide ((s.L_.places.length:Int)<=d.frm) with
 |true=>rfl
 |false=>
   simp only[cond_false]
   cases (!Bs_ s.L_ d.frm s.place) && decide (S_ s.L_ d.frm s.place<0) with
   |true=>rfl
   |false=>
     simp only[cond_false]
     have e4:(fS s).seen=s.x.seen:=rfl
     rw[e4]
     cases decide (d.number<=A16.get s.x.seen d.frm.toNat) with
     |true=>rfl
     |false=>
       simp only[cond_false]
       have key:∀ x:E_,Iv x->BkB x.x.book ->
           (lp1 ((bif decide (d.P_.hops<4) then
 bif decide ((P1_ (fS x) ⟨d.P_.id,d.P_.Al_,d.P_.key,d.P_.head,d.P_.body,d.P_.due,A0 .u8 (d.P_.hops+1)⟩ d.tick).2.2=0) then
 Lo.ret ((P1_ (fS x) ⟨d.P_.id,d.P_.Al_,d.P_.key,d.P_.head,d.P_.body,d.P_.due,A0 .u8 (d.P_.hops+1)⟩ d.tick).1,(P1_ (fS x) ⟨d.P_.id,d.P_.Al_,d.P_.key,d.P_.head,d.P_.body,d.P_.due,A0 .u8 (d.P_.hops+1)⟩ d.tick).2.1,(0:Int))
 else .fin (⟨d.P_.id,d.P_.Al_,d.P_.key,d.P_.head,d.P_.body,d.P_.due,A0 .u8 (d.P_.hops+1)⟩:Mail)
 else .fin d.P_)) (λx1=>
 (F3_ (fS x) d.tick 1 x1.Al_,(⟨⟨⟨0,[],[],[],[],0,0⟩,false,false⟩,0,1⟩:Ak_),(0:Int))) (λr=>r)) =
           (λc:E_×Ak_×Int=>(fS c.1,c.2)) (bif ((decide (4<A0 .u8 ((K_ d.P_).hops+1)))||(!decide ((Q_ x ⟨(K_ d.P_).id,(K_ d.P_).Al_,(K_ d.P_).key,(K_ d.P_).head,(K_ d.P_).body,(K_ d.P_).due,A0 .u8 ((K_ d.P_).hops+1)⟩ d.tick).2.2.2=0))) then
 (A8_ x d.tick 1 (K_ d.P_).Al_,⟨⟨⟨0,[],[],[],[],0,0⟩,false,false⟩,0,1⟩,0)
 else ((Bj_ (Q_ x ⟨(K_ d.P_).id,(K_ d.P_).Al_,(K_ d.P_).key,(K_ d.P_).head,(K_ d.P_).body,(K_ d.P_).due,A0 .u8 ((K_ d.P_).hops+1)⟩ d.tick).1 (Q_ x ⟨(K_ d.P_).id,(K_ d.P_).Al_,(K_ d.P_).key,(K_ d.P_).head,(K_ d.P_).body,(K_ d.P_).due,A0 .u8 ((K_ d.P_).hops+1)⟩ d.tick).2.1 d.tick).1,⟨⟨⟨0,[],[],[],[],0,0⟩,false,false⟩,(Q_ x ⟨(K_ d.P_).id,(K_ d.P_).Al_,(K_ d.P_).key,(K_ d.P_).head,(K_ d.P_).body,(K_ d.P_).due,A0 .u8 ((K_ d.P_).hops+1)⟩ d.tick).2.2.1,(Bj_ (Q_ x ⟨(K_ d.P_).id,(K_ d.P_).Al_,(K_ d.P_).key,(K_ d.P_).head,(K_ d.P_).body,(K_ d.P_).due,A0 .u8 ((K_ d.P_).hops+1)⟩ d.tick).1 (Q_ x ⟨(K_ d.P_).id,(K_ d.P_).Al_,(K_ d.P_).key,(K_ d.P_).head,(K_ d.P_).body,(K_ d.P_).due,A0 .u8 ((K_ d.P_).hops+1)⟩ d.tick).2.1 d.tick).2⟩,0)):=by
         intro x hx hb
         have hn:∀ n,F3_ (fS x) d.tick 1 n=fS (A8_ x d.tick 1 n):=λn=>Vv_ hx.1.1.2.2.1 _ _ _
         unfold K_
         by_cases c:d.P_.hops<4
         . have hwr:A0 .u8 (d.P_.hops+1)=d.P_.hops+1:=by
             have :=hm.1.1.2.2.1
             exact tG
           rw[decide_eq_true c,decide_eq_false (show ¬4<A0 .u8 (d.P_.hops+1) by rw[hwr];omega)]
           simp only[cond_true,CY]
           rw[r23put ht hx hb (cloH.wp hm)]
           generalize Q_ x ⟨d.P_.id,d.P_.Al_,d.P_.key,d.P_.head,d.P_.body,d.P_.due,A0 .u8 (d.P_.hops+1)⟩ d.tick=v
           by_cases q:v.2.2.2=0
           . exact tK
           . rw[decide_eq_false q]
             simp only[AT,cond_true]
             rw[decide_eq_false q]
             simp only[cond_false,lp1]
             rw[hn]
         . have h5:4<A0 .u8 (d.P_.hops+1):=by
             have :=hm.1.1.2.2.1
             exact tG
           rw[decide_eq_false c,decide_eq_true h5]
           simp only[cond_false,EQ,cond_true,lp1]
           rw[hn]
       have hs0:Iv ⟨⟨s.x.book,s.x.C_,s.x.notes,A16.set s.x.seen d.number d.frm.toNat,s.x.spent⟩,s.L_,s.place⟩:=⟨Eg_ hx.1,hx.2⟩
       cases Bs_ s.L_ d.frm s.place with
       |true=>
         simp only[A5,cond_false,lt1]
         have e5:(⟨(fS s).p,(fS s).at_,(fS s).book,(fS s).C_,(fS s).notes,A16.set s.x.seen d.number d.frm.toNat,(fS s).spent⟩:M_)=fS ⟨⟨s.x.book,s.x.C_,s.x.notes,A16.set s.x.seen d.number d.frm.toNat,s.x.spent⟩,s.L_,s.place⟩:=rfl
         rw[e5]
         exact key _ hs0 hb
       |false=>
         simp only[AT,cond_true,lt1]
         have hn:F3_ ⟨(fS s).p,(fS s).at_,(fS s).book,(fS s).C_,(fS s).notes,A16.set s.x.seen d.number d.frm.toNat,(fS s).spent⟩ d.tick 2 (gt (fS s).p.places d.frm.toNat).name=fS (A8_ ⟨⟨s.x.book,s.x.C_,s.x.notes,A16.set s.x.seen d.number d.frm.toNat,s.x.spent⟩,s.L_,s.place⟩ d.tick 2 (gt s.L_.places d.frm.toNat).name):=Vv_ (s:=⟨⟨s.x.book,s.x.C_,s.x.notes,A16.set s.x.seen d.number d.frm.toNat,s.x.spent⟩,s.L_,s.place⟩) hx.1.1.2.2.1 _ _ _
         rw[hn]
         have hy:Iv (A8_ ⟨⟨s.x.book,s.x.C_,s.x.notes,A16.set s.x.seen d.number d.frm.toNat,s.x.spent⟩,s.L_,s.place⟩ d.tick 2 (gt s.L_.places d.frm.toNat).name):=⟨(Ko_ hs0.1).1,hx.2⟩
         have hyb:BkB (A8_ ⟨⟨s.x.book,s.x.C_,s.x.notes,A16.set s.x.seen d.number d.frm.toNat,s.x.spent⟩,s.L_,s.place⟩ d.tick 2 (gt s.L_.places d.frm.toNat).name).x.book:=hb
         generalize A8_ ⟨⟨s.x.book,s.x.C_,s.x.notes,A16.set s.x.seen d.number d.frm.toNat,s.x.spent⟩,s.L_,s.place⟩ d.tick 2 (gt s.L_.places d.frm.toNat).name=y at hy hyb ⊢
         exact key y hy hyb
theorem sbg_nd{s:E_}(h:SbG s):(s.x.book.Ae_.map (·.name)).Nodup/\s.x.book.binds.Nodup:=⟨h.1,h.2.1⟩
theorem queue_b{k:G_}{n:Bs}:(Aj_ k n).2=!decide (Dk_ (fK k) n<0):=by
 rw[Oi_]
 rcases queue_c k n with ⟨q1,q2⟩|⟨j,q1,hj,q2⟩
 rw[q2,decide_eq_true q1];rfl;rw[q2,q1,decide_eq_false qX];rfl
theorem r23shops{s:E_}{d:T_}(hb:BkB s.x.book)(hn:SbG s)(hL:∀ y∈s.L_.places,LbOk y.label)(hk:d.kind=0\/d.kind=1\/d.kind=4\/d.kind=5):O7_ (fS s) d=(fS (Ao_ s d).1,(Ao_ s d).2):=by
 unfold O7_ Ao_ lt;dsimp only;have f1:∀ n,Ku_ (fS s).p n=J_ s.L_ n:=λn=>r05find;have f2:∀ r,Fx_ (fS s).p (fS s).at_ r=S_ s.L_ s.place r:=λr=>Up_ _ _ _;have f3:∀ r,Kv_ (fS s).p (fS s).at_ r=Bs_ s.L_ s.place r:=λr=>r05flows hL;have f4:Sb_ (fS s).book d.Al_=B5_ s.x.book d.Al_:=r14make;have f5:Sa_ (fS s).book d.name=Dx_ s.x.book d.name:=r14drop (sbg_nd hn).1;have f6:Kd_ (fS s).book d.bind=Bh_ s.x.book d.bind:=r14bind hb;have f7:M0_ (fS s).book d.bind=C2_ s.x.book d.bind:=r14unbind (sbg_nd hn).2;have f8:∀ n,(Aj_ s.x.C_ n).2=!decide (Dk_ (fS s).C_ n<0):=λn=>queue_b;simp only[f1,f2,f3,f4,f5,f6,f7,f8]
 rcases hk with e|e|e|e
 simp only[e,decide_true,cond_true];by_cases c:d.Al_.sort=4
 . simp only[decide_eq_true c,AW,cond_true]
   cases decide (J_ s.L_ d.Al_.to'<0) with
   |true=>rfl
   |false=>
     simp only[cond_false]
     cases decide (S_ s.L_ s.place (J_ s.L_ d.Al_.to')<0) with
     |true=>rfl
     |false=>rfl
 simp only[decide_eq_false c,B6,cond_false];rfl;simp only[e,show ¬(1:Int)=0 by decide,decide_false,decide_true,cond_true,cond_false];rfl
 . simp only[e,show ¬(4:Int)=0 by decide,show ¬(4:Int)=1 by decide,show ¬(4:Int)=5 by decide,decide_false,decide_true,cond_true,cond_false,lt1]
   generalize decide (J_ s.L_ d.bind.to'<0)=a
   generalize decide (Dk_ (fS s).C_ d.bind.to'<0)=b
   cases d.bind.up with
   |true=>
     cases a with
     |true=>simp[lp0]
     |false=>
       simp only[AW,A5,B6,CE,cond_false]
       cases Bs_ s.L_ s.place (J_ s.L_ d.bind.to') with
       |true=>rfl
       |false=>rfl
   |false=>
     cases b with
     |true=>simp[lp0]
     |false=>simp[lp0];rfl
 simp only[e,show ¬(5:Int)=0 by decide,show ¬(5:Int)=1 by decide,show ¬(5:Int)=4 by decide,decide_false,decide_true,cond_true,cond_false];rfl
theorem kinds{d:T_}(hk:0<=d.kind)(he:Dl_ d=0):d.kind<=12/\((d.kind=6\/d.kind=10)->D6_ d.P_=0):=by
 unfold Dl_ at he;by_cases c:12<d.kind
 . rw[if_pos c] at he;cases he
 rw[if_neg c] at he;refine⟨by omega,λh=>?_⟩;by_cases c1:d≠Ht_ d
 . rw[if_pos c1] at he;cases he
 rw[if_neg c1,if_neg qX,if_neg qX,if_neg qX,if_pos h] at he;exact he
theorem err_put(s:E_)(d:T_):(D8_ s d).2.2=0\/D8_ s d=(s,⟨⟨⟨0,[],[],[],[],0,0⟩,false,false⟩,0,0⟩,(D8_ s d).2.2):=by
 unfold D8_ lt;let Q:E_×Ak_×Int->Prop:=λr=>r.2.2=0\/r=(s,⟨⟨⟨0,[],[],[],[],0,0⟩,false,false⟩,0,0⟩,r.2.2);exact bt (P:=Q) (λ_=> .inr Y) λ_=> .inl Y
theorem err_lend(s:E_)(d:T_):(Db_ s d).2.2=0\/Db_ s d=(s,⟨⟨⟨0,[],[],[],[],0,0⟩,false,false⟩,0,0⟩,(Db_ s d).2.2):=by
 unfold Db_ lt;let Q:E_×Ak_×Int->Prop:=λr=>r.2.2=0\/r=(s,⟨⟨⟨0,[],[],[],[],0,0⟩,false,false⟩,0,0⟩,r.2.2);exact bt (P:=Q) (λ_=> .inr Y) λ_=>bt (P:=Q) (λ_=> .inr Y) λ_=> .inl Y
theorem err_settle(s:E_)(d:T_):(Cg_ s d).2.2=0\/Cg_ s d=(s,⟨⟨⟨0,[],[],[],[],0,0⟩,false,false⟩,0,0⟩,(Cg_ s d).2.2):=by
 unfold Cg_ lt;let Q:E_×Ak_×Int->Prop:=λr=>r.2.2=0\/r=(s,⟨⟨⟨0,[],[],[],[],0,0⟩,false,false⟩,0,0⟩,r.2.2);exact bt (P:=Q) (λ_=> .inr Y) λ_=>bt (P:=Q) (λ_=> .inl Y) λ_=>bt (P:=Q) (λ_=> .inl Y) λ_=> .inl Y
theorem err_pull(s:E_)(d:T_):(Cv_ s d).2.2=0\/Cv_ s d=(s,⟨⟨⟨0,[],[],[],[],0,0⟩,false,false⟩,0,0⟩,(Cv_ s d).2.2):=by
 unfold Cv_ lt;let Q:E_×Ak_×Int->Prop:=λr=>r.2.2=0\/r=(s,⟨⟨⟨0,[],[],[],[],0,0⟩,false,false⟩,0,0⟩,r.2.2);exact bt (P:=Q) (λ_=> .inr Y) λ_=>bt (P:=Q) (λ_=> .inr Y) λ_=>bt (P:=Q) (λ_=> .inr Y) λ_=>lt1E (P:=Q) (λ_=>True) Z λ_ _=>bt (P:=Q) (λ_=> .inl Y) λ_=> .inl Y
theorem done_f{s:E_}{v:E_×Ak_×Int}(h:v.2.2=0\/v=(s,⟨⟨⟨0,[],[],[],[],0,0⟩,false,false⟩,0,0⟩,v.2.2)):(bif !decide (v.2.2=0) then (s,bI,v.2.2) else (v.1,v.2.1,0))=v:=by
 by_cases e:v.2.2=0;rw[decide_eq_true e];simp only[A5,cond_false];rw[<- e]
 . rw[decide_eq_false e]
   simp only[AT,cond_true]
   rcases h with h|h
   exact (e h).elim
   exact h.symm
theorem do_wake(s:E_):(fS ⟨⟨s.x.book,Da_ s.x.C_,s.x.notes,s.x.seen,s.x.spent⟩,s.L_,s.place⟩)=⟨(fS s).p,(fS s).at_,(fS s).book,Py_ (fS s).C_,(fS s).notes,(fS s).seen,(fS s).spent⟩:=by
 have :Py_ (fS s).C_=fK (Da_ s.x.C_):=r21wake;rw[this];rfl
theorem r23do{p:H_}{k:Int}{s:E_}{d:T_}(h:Rt p k s)(hf:DdF d)(hk:0<=d.kind)(hL:∀ y∈s.L_.places,LbOk y.label):Zg_ (fS s) d=(fS (Z_ s d).1,(Z_ s d).2):=by
 have ht:=hf.1;have hx:Iv s:=⟨h.ok,h.b.2.1,h.g⟩;have hb:BkB s.x.book:=h.b.1;unfold Zg_ Z_ lt lt1 lt3;dsimp only;by_cases he:Dl_ d=0
 . rw[decide_eq_true he]
   simp only[A5,cond_false]
   have⟨hk2,hml⟩:=kinds hk he
   have hwm:(d.kind=6\/d.kind=10)->Wh d.P_/\d.P_.hops<=4:=λq=>by
     have⟨g1,g2,g3,g4,g5⟩:=Ix_ (hml q)
     exact⟨⟨hf.2.2.2.2.2.1,g3⟩,g5⟩
   obtain⟨n,hn⟩:∃ n:Nat,d.kind=n:=⟨d.kind.toNat,by omega⟩
   have hn2:n<=12:=by omega
   have hsh:(n=0\/n=1\/n=4\/n=5)->O7_ (fS s) d=(fS (Ao_ s d).1,(Ao_ s d).2):=λq=>r23shops hb h.bk hL qX
   have hz:∀ a:E_×Int,(bif !decide (a.2=0) then (fS s,bI,a.2) else (fS a.1,⟨⟨⟨0,[],[],[],[],0,0⟩,false,false⟩,0,0⟩,0))=(fS (bif !decide (a.2=0) then (s,bI,a.2) else (a.1,bI,(0:Int))).1,(bif !decide (a.2=0) then (s,bI,a.2) else (a.1,bI,(0:Int))).2):=λa=>by
     cases decide (a.2=0)<;>rfl
   match n,hn2,hn,hsh with
   |0,_,hn,hsh=>
     have hn:d.kind=0:=hn
     simp only[hn,show ¬(0:Int)=2 by decide,show ¬(0:Int)=3 by decide,show ¬(0:Int)=6 by decide,show ¬(0:Int)=7 by decide,show ¬(0:Int)=8 by decide,show ¬(0:Int)=9 by decide,show ¬(0:Int)=10 by decide,show ¬(0:Int)=11 by decide,show ¬(0:Int)=12 by decide,decide_false,cond_false]
     rw[hsh qZ]
     exact hz (Ao_ s d)
   |1,_,hn,hsh=>
     have hn:d.kind=1:=hn
     simp only[hn,show ¬(1:Int)=2 by decide,show ¬(1:Int)=3 by decide,show ¬(1:Int)=6 by decide,show ¬(1:Int)=7 by decide,show ¬(1:Int)=8 by decide,show ¬(1:Int)=9 by decide,show ¬(1:Int)=10 by decide,show ¬(1:Int)=11 by decide,show ¬(1:Int)=12 by decide,decide_false,cond_false]
     rw[hsh qZ]
     exact hz (Ao_ s d)
   |4,_,hn,hsh=>
     have hn:d.kind=4:=hn
     simp only[hn,show ¬(4:Int)=2 by decide,show ¬(4:Int)=3 by decide,show ¬(4:Int)=6 by decide,show ¬(4:Int)=7 by decide,show ¬(4:Int)=8 by decide,show ¬(4:Int)=9 by decide,show ¬(4:Int)=10 by decide,show ¬(4:Int)=11 by decide,show ¬(4:Int)=12 by decide,decide_false,cond_false]
     rw[hsh qZ]
     exact hz (Ao_ s d)
   |5,_,hn,hsh=>
     have hn:d.kind=5:=hn
     simp only[hn,show ¬(5:Int)=2 by decide,show ¬(5:Int)=3 by decide,show ¬(5:Int)=6 by decide,show ¬(5:Int)=7 by decide,show ¬(5:Int)=8 by decide,show ¬(5:Int)=9 by decide,show ¬(5:Int)=10 by decide,show ¬(5:Int)=11 by decide,show ¬(5:Int)=12 by decide,decide_false,cond_false]
     rw[hsh qZ]
     exact hz (Ao_ s d)
   |2,_,hn,_=>
     have hn:d.kind=2:=hn
     have e1:Sg_ (fS s).C_ d.queue=_:=r21make
     simp only[hn,show (2:Int)=2 by decide,decide_true,cond_true,e1,Bq_,lt]
     exact hz (⟨⟨s.x.book,(As_ s.x.C_ d.queue).1,s.x.notes,s.x.seen,s.x.spent⟩,s.L_,s.place⟩,(As_ s.x.C_ d.queue).2)
   |3,_,hn,_=>
     have hn:d.kind=3:=hn
     have e1:Se_ (fS s).C_ d.name=_:=r21drop h.ok.stk
     have e2:Ll_ (fS s).book d.name=C1_ s.x.book d.name:=r14forget
     simp only[hn,show ¬(3:Int)=2 by decide,show (3:Int)=3 by decide,decide_true,decide_false,cond_true,cond_false,e1,e2,Bq_,lt]
     generalize Bg_ s.x.C_ d.name=w
     by_cases c:w.2=0
     . simp only[decide_eq_true c,cond_true,lp2,A5,cond_false]
       rfl
     . simp only[decide_eq_false c,cond_false,lp2,AT,cond_true]
   |6,_,hn,_=>
     have hn:d.kind=6:=hn
     have⟨w1,w2⟩:=hwm (.inl hn)
     simp only[hn,show ¬(6:Int)=2 by decide,show ¬(6:Int)=3 by decide,show (6:Int)=6 by decide,decide_true,decide_false,cond_true,cond_false]
     rw[r23put ht hx hb w1,done_f (err_put s d)]
     unfold D8_ lt K_
     dsimp only
     cases decide ((Q_ s d.P_ d.tick).2.2.2=0)<;>rfl
   |7,_,hn,_=>
     have hn:d.kind=7:=hn
     have e1:Dk_ (fS s).C_ d.name=I_ s.x.C_ d.name:=Oi_ _ _
     have e2:Sf_ (fS s).C_ d.name=_:=r21lend
     simp only[hn,show ¬(7:Int)=2 by decide,show ¬(7:Int)=3 by decide,show ¬(7:Int)=6 by decide,show (7:Int)=7 by decide,decide_true,decide_false,cond_true,cond_false]
     rw[done_f (err_lend s d),e1,e2]
     unfold Db_ lt
     dsimp only
     rcases queue_c s.x.C_ d.name with ⟨q1,q2⟩|⟨j,q1,hj,q2⟩
     . rw[q2,decide_eq_true q1];rfl
     . rw[q2,q1,decide_eq_false qX]
       simp only[A5,cond_false]
       cases (Cb_ s.x.C_ d.name).2.2<;>rfl
   |8,_,hn,_=>
     have hn:d.kind=8:=hn
     simp only[hn,show ¬(8:Int)=2 by decide,show ¬(8:Int)=3 by decide,show ¬(8:Int)=6 by decide,show ¬(8:Int)=7 by decide,show (8:Int)=8 by decide,decide_true,decide_false,cond_true,cond_false]
     rw[r23settle ht hx hb,done_f (err_settle s d)]
     rfl
   |9,_,hn,_=>
     have hn:d.kind=9:=hn
     simp only[hn,show ¬(9:Int)=2 by decide,show ¬(9:Int)=3 by decide,show ¬(9:Int)=6 by decide,show ¬(9:Int)=7 by decide,show ¬(9:Int)=8 by decide,show (9:Int)=9 by decide,decide_true,decide_false,cond_true,cond_false,A5]
     rw[r23late ht hx hb]
     rfl
   |10,_,hn,_=>
     have hn:d.kind=10:=hn
     have⟨w1,w2⟩:=hwm (.inr hn)
     simp only[hn,show ¬(10:Int)=2 by decide,show ¬(10:Int)=3 by decide,show ¬(10:Int)=6 by decide,show ¬(10:Int)=7 by decide,show ¬(10:Int)=8 by decide,show ¬(10:Int)=9 by decide,show (10:Int)=10 by decide,decide_true,decide_false,cond_true,cond_false]
     rw[r23pull ht hx hb w1 w2 hL,done_f (err_pull s d)]
     rfl
   |11,_,hn,_=>
     have hn:d.kind=11:=hn
     simp only[hn,show ¬(11:Int)=2 by decide,show ¬(11:Int)=3 by decide,show ¬(11:Int)=6 by decide,show ¬(11:Int)=7 by decide,show ¬(11:Int)=8 by decide,show ¬(11:Int)=9 by decide,show ¬(11:Int)=10 by decide,show (11:Int)=11 by decide,decide_true,decide_false,cond_true,cond_false,he,A5,lp2]
     rw[<- do_wake,Vv_ (s:=⟨⟨s.x.book,Da_ s.x.C_,s.x.notes,s.x.seen,s.x.spent⟩,s.L_,s.place⟩) h.ok.1.2.2.1]
   |12,_,hn,_=>
     have hn:d.kind=12:=hn
     simp only[hn,show ¬(12:Int)=2 by decide,show ¬(12:Int)=3 by decide,show ¬(12:Int)=6 by decide,show ¬(12:Int)=7 by decide,show ¬(12:Int)=8 by decide,show ¬(12:Int)=9 by decide,show ¬(12:Int)=10 by decide,show ¬(12:Int)=11 by decide,show (12:Int)=12 by decide,decide_true,decide_false,cond_true,cond_false]
     have e1:Q7_ (fS s).notes ⟨d.tick,d.code,d.text⟩=Cn_ s.x.notes ⟨d.tick,d.code,d.text⟩:=r19add h.ok.1.2.2.1
     rw[e1]
     exact hz (⟨⟨s.x.book,s.x.C_,(Cn_ s.x.notes ⟨d.tick,d.code,d.text⟩).1,s.x.seen,s.x.spent⟩,s.L_,s.place⟩,(Cn_ s.x.notes ⟨d.tick,d.code,d.text⟩).2)
   |n+13,q,_,_=>omega
 rw[decide_eq_false he];rfl
def RsOk(q:M_):Prop:=Iv (toS q)/\BkB q.book
def SgOk(k:Ac_):Prop:=StkOk (toK k)/\KH (toK k)
theorem rs_g{q:M_}(h:RsOk q):SgOk q.C_:=⟨h.1.1.1.2.1,h.1.2⟩
theorem Zk_{q:M_}(h:RsOk q){k:Ac_}(hk:SgOk k):RsOk ⟨q.p,q.at_,q.book,k,q.notes,q.seen,q.spent⟩:=⟨⟨Co_ h.1.1 hk.1,hk.2⟩,h.2⟩
theorem sg_rk{k:Ac_}(h:SgOk k):RkOk k:=by
 have⟨⟨h1,h2,_⟩,h3,_⟩:=h;refine⟨by have :=h1.1;simpa [toK] using this,λr hr=>?_,λi hi=>(h2 i hi).1⟩;have hm:(⟨r.q,⟨r.l⟩⟩:Fe_)∈(toK k).rows:=BO (f:=λr:G9_=>(⟨r.q,⟨r.l⟩⟩:Fe_)) hr;have hq:=Pu_ (h3 _ hm);exact⟨(h1.2.1 _ hm).1,hq.1,hq.2.1⟩
theorem rs_rk{q:M_}(h:RsOk q):RkOk q.C_:=sg_rk (rs_g h)
theorem rs_bk{q:M_}(h:RsOk q):BkOk q.book:=h.1.1.1.1
theorem rs_bb{q:M_}(h:RsOk q):BkB q.book:=h.2
theorem Qd_{q:M_}(h:RsOk q):q.notes.kept.length<=1000:=Nat.le_trans h.1.1.1.2.2.1 qZ
theorem Z1_{q:M_}(h:RsOk q):PoOk q.p/\0<=q.at_/\q.at_<q.p.places.length:=h.1.1.2
theorem rs_sp{q:M_}(h:RsOk q):∀ i,i<8->0<=(q.spent.get i).count/\(q.spent.get i).count<=16:=h.1.1.1.2.2.2
theorem rs_seen{q:M_}(h:RsOk q){a:A16_u64}:RsOk ⟨q.p,q.at_,q.book,q.C_,q.notes,a,q.spent⟩:=h
theorem rs_note{q:M_}(h:RsOk q)(t k:Int)(x:Bs):RsOk (F3_ q t k x)/\(F3_ q t k x).C_=q.C_:=by
 refine⟨?_,rfl⟩;have :=Vv_ (s:=toS q) h.1.1.1.2.2.1 t k x;rw[fS_to] at this;rw[this];unfold RsOk;rw[toS_f];exact⟨⟨(Ko_ h.1.1).1,h.1.2⟩,h.2⟩
theorem spend_bk(s:E_)(to' t:Int):(A1_ s to' t).1.x.book=s.x.book:=by
 unfold A1_ lt;let Q:E_×Int->Prop:=λr=>r.1.x.book=s.x.book;exact bt (P:=Q) (λ_=>rfl) λ_=>lt1E (P:=Q) (λ_=>True) Z λ_ _=>bt (P:=Q) (λ_=>rfl) λ_=>rfl
theorem rs_spend{q:M_}(h:RsOk q){t:Int}(ht:U64 t)(to':Int):RsOk (O8_ q to' t).1:=by
 have :=r23spend (s:=toS q) h.1 (to':=to') ht;rw[fS_to] at this;rw[this];unfold RsOk;rw[toS_f];exact⟨iv_spend h.1 to' t,by show BkB (A1_ (toS q) to' t).1.x.book;rw[spend_bk];exact h.2⟩
theorem rgrant_in{p:H_}(h:PoOk p)(a b:Int):0<=Fx_ p a b->0<=b/\b<p.places.length/\0<=(gt p.grants (Fx_ p a b).toNat).budget/\(gt p.grants (Fx_ p a b).toNat).budget<=16:=by
 rw[Up_];exact grant_in h a b
theorem sg_put{k:Ac_}{n:Bs}{m:Mail}(h:SgOk k)(hm:Wf m):SgOk (S9_ k n m).1:=by
 have :=r21put (k:=toK k) (n:=n) h.1 h.2.1 h.2.2 hm;rw[fK_to] at this;rw[this];unfold SgOk;rw[toK_f];exact⟨(Xv_ h.1 hm.1.2.2.1).1,cloB.kp h.1 h.2.1,(cloG.kp h.1 hm h.2.2).1⟩
theorem sg_raise{k:Ac_}{p:Int}{m:Mail}(h:SgOk k)(hm:Wf m):SgOk (Jr_ k p m).1:=by
 have :=r21raise (k:=toK k) (p:=p) h.1 (kw_of h.2.2) hm.2;rw[fK_to] at this;rw[this];unfold SgOk;rw[toK_f];exact⟨(T6_ h.1).1,cloB.ks h.2.1,cloG.ks hm h.2.2⟩
theorem sg_rem{k:Ac_}{n:Bs}{i:Int}(h:SgOk k):SgOk (Gd_ k n i).1/\MlOk (Gd_ k n i).2.1.P_/\Wh (Gd_ k n i).2.1.P_:=by
 have :=Uv_ (toK k) n i;rw[fK_to] at this;rw[this];unfold SgOk;dsimp only;rw[toK_f];exact⟨⟨(Iq_ h.1).1,(cloH.kr h.2).1⟩,(Iq_ h.1).2,(cloH.kr h.2).2⟩
theorem wh_0{m:Mail}(h:Wh m):Wh ⟨0,m.Al_,m.key,m.head,m.body,m.due,m.hops⟩:=cloH.wr h
theorem wh_len{m:Mail}(h:Wh m):m.head.length<=8:=T2_ h.2
theorem rdue_u{d t l:Int}(h:U64 d):U64 (Oj_ d t l):=by
 unfold Oj_;have hw:=Fv_ (t+l);exact bt (P:=U64) (λ_=>h) λ_=>bt (P:=U64) (λ_=>h) λ_=>hw
theorem wf_due{m:Mail}(h:Wh m)(t l:Int):Wf ⟨m.id,m.Al_,m.key,m.head,m.body,Oj_ m.due t l,m.hops⟩:=⟨⟨h.1.1.1,rdue_u h.1.1.2.1,h.1.1.2.2⟩,h.1.2⟩
def TqQ(n:Nat)(v:M_×List Er_×Int×Int):Prop:=RsOk v.1/\v.2.1.length<=n/\0<=v.2.2.1/\v.2.2.1<=n
theorem toq_f0{m:Mail}{tick:Int}(hm:Wh m){n:Nat}:∀ (t:List Bs) (gone:List Er_) (c:Int) (x:M_),RsOk x->gone.length+t.length<=n->0<=c->c+t.length<=n->TqQ n (Dv_ m tick t gone c x)
 |[],gone,c,x,hx,h1,h2,h3=>by
   unfold Dv_
   exact⟨hx,by simpa using h1,h2,by simpa using h3⟩
 |q::t,gone,c,x,hx,h1,h2,h3=>by
   simp only[A2] at h1 h3
   unfold Dv_ lt
   refine bt (P:=TqQ n) (λ_=>toq_f0 hm t gone c x hx qX h2 qX) λ_=>?_
   refine bt (P:=TqQ n) (λ_=>⟨hx,B5 _,BM _,by show (0:Int)<=n;omega⟩) λ_=>?_
   have hs:=Zk_ hx (sg_put (n:=q) (rs_g hx) (wf_due hm tick (gt x.C_.rows (Dk_ x.C_ q).toNat).q.life))
   exact bt (P:=TqQ n) (λ_=>toq_f0 hm t _ _ _ hs pL qX qX) λ_=>toq_f0 hm t _ _ _ hs qX qX qX
theorem toq_f{s:M_}{queues:List Bs}{m:Mail}{tick:Int}(hs:RsOk s)(hm:Wh m):TqQ queues.length (L9_ s queues m tick):=toq_f0 hm queues [] 0 s hs pC (BM _) qX
theorem rleads_f{b:Ai_}(Al_ key:Bs){h:List Pair}(hb:BkOk b)(hB:BkB b)(he:Dz_ h=0):(Jp_ b Al_ key h).1.length<=32/\(Jp_ b Al_ key h).2.1.length<=33/\((Jp_ b Al_ key h).2.2=0->0<=Gc_ b Al_):=by
 have e:Jp_ b Al_ key h=By_ b Al_ key h:=r14leads he hB;have hl:=Uc_ Al_ key h hb;rw[e];refine⟨hl.1,hl.2,λh0=>?_⟩
 rcases shop_c b Al_ with ⟨c1,c2⟩|⟨i,c1,_,_⟩
 . exfalso
   unfold By_ at h0
   rw[c2] at h0
   cases h0
 omega
def SndP(s:M_)(m:Mail)(v:M_×List Er_×Int×Int):Prop:=RsOk v.1/\(v.2.1.length<=600/\∀ g∈v.2.1,MlOk g.P_)/\(∀ g∈v.2.1,Wh g.P_)/\v.2.1.length<=32/\(v.2.2.2=0->wtk (toK v.1.C_)+wto v.2.1<=wtk (toK s.C_)+32*wtm m)
theorem rsend_f{s:M_}{m:Mail}{tick:Int}(ht:U64 tick)(hs:RsOk s)(hm:Wh m):SndP s m (Pz_ s m tick):=by
 have :=r23send (s:=toS s) (m:=m) ht hs.1 hs.2 hm.1 hm.2;rw[fS_to] at this;rw[this];have h1:=Lt_ (s:=toS s) (m:=m) (tick:=tick) hs.1.1 hm.1.1.2.2.1;have h2:=Mv_ (s:=toS s) (m:=m) (tick:=tick) hs.1.1;have hw:=send_w cloH (tick:=tick) ht hs.1.1 (kw_self hs.1.k) hm hm.1.1.2.2.1;generalize Q_ (toS s) m tick=v at h1 h2 hw ⊢;have e:toK (fS v.1).C_=v.1.x.C_:=toK_f _;unfold SndP;dsimp only;rw[e];refine⟨?_,⟨by omega,h1.2.1⟩,hw.2,h2,h1.2.2⟩;unfold RsOk;rw[toS_f];exact⟨⟨h1.1,hw.1.k⟩,by show BkB v.1.x.book;rw[hw.1.bo];exact hs.2⟩
def SnP(x:M_)(h:Int)(more:List Er_)(e:Int)(y:M_):Prop:=e=0->h<4/\RsOk y/\(∀ g∈more,MlOk g.P_)/\(∀ g∈more,Wh g.P_)/\more.length<=32/\wtk (toK y.C_)+wto more<=wtk (toK x.C_)+32*33 ^ (5-(h+1).toNat)
theorem snP_1{x:M_}{h:Int}{m:Mail}{v:M_×List Er_×Int×Int}(hv:SndP x m v)(h4:h<4)(h0:0<=h)(hm:m.hops=IntKind.wrap .u8 (h+1)):SnP x h v.2.1 v.2.2.2 v.1:=λe=>by
 have⟨h1,h2,h3,h5,h6⟩:=hv
 refine⟨h4,h1,h2.2,h3,h5,?_⟩
 have h7:=h6 e
 unfold wtm at h7
 have hw:A0 .u8 (h+1)=h+1:=by rw[IntKind.wrap_u8];omega
 rw[hm,hw] at h7
 exact h7
theorem snP_7{x y:M_}{h:Int}{more:List Er_}:SnP x h more 7 y:=λe=>by cases e
theorem snP_len{x y:M_}{h e:Int}{more:List Er_}(hs:SnP x h more e y)(he:e=0):more.length<=32:=(hs he).2.2.2.2.1
def RbI(gone:List Er_)(lost i:Int)(x:M_):Prop:=RsOk x/\0<=i/\0<=lost/\i+lost+2*((wtk (toK x.C_)+wto (gone.drop i.toNat):Nat):Int)<=150000000000/\gone.length<=i.toNat+(gone.drop i.toNat).length/\(∀ g∈gone.drop i.toNat,MlOk g.P_)/\∀ g∈gone.drop i.toNat,Wh g.P_
theorem rbI0{gone:List Er_}{x:M_}(h:RsOk x)(hg:gone.length<=600/\∀ g∈gone,MlOk g.P_)(hw:∀ g∈gone,Wh g.P_):RbI gone 0 0 x:=by
 have h1:=wtk_r (rs_g h).1;have h2:=(wto_r gone).2;refine⟨h,BM _,BM _,?_,by simp,hg.2,hw⟩;show (0:Int)+0+2*((wtk (toK x.C_)+wto gone:Nat):Int)<=_;have :=hg.1;omega
section
variable{gone more:List Er_}{lost i e:Int}{x y:M_}{f:Nat}
theorem rbI_rs(h:RbI gone lost i x):RsOk x:=h.1
theorem rbI_0(h:RbI gone lost i x):0<=i/\0<=lost/\i+lost<=150000000000/\gone.length<=150000000000:=by
 have⟨_,h1,h2,h3,h4,_⟩:=h;have :=(wto_r (gone.drop i.toNat)).1;omega
theorem Vw_(hn:i<gone.length)(h0:0<=i):gone.drop i.toNat=gt gone i.toNat::gone.drop (i+1).toNat:=by
 have :(i+1).toNat=i.toNat+1:=by omega
 rw[this];exact S2_ qX
theorem W1_(a:Er_)(l:List Er_):wto (a::l)=wtm a.P_+wto l:=by simp[wto]
theorem rbI_at(h:RbI gone lost i x)(hn:i<gone.length):MlOk (gt gone i.toNat).P_/\Wh (gt gone i.toNat).P_:=by
 have⟨_,h1,h2,h3,h4,h5,h6⟩:=h;rw[Vw_ hn h1] at h5 h6;exact⟨h5 _ pC,h6 _ pC⟩
theorem rbmu_a(h:RbI gone lost i x)(hn:i<gone.length)(hf:wtk (toK x.C_)+wto (gone.drop i.toNat)<f+1):wtk (toK x.C_)+wto (gone.drop (i+1).toNat)<f:=by
 rw[Vw_ hn h.2.1,W1_] at hf;have :=(wtm_r (gt gone i.toNat).P_).1;omega
theorem rbI_a(h:RbI gone lost i x)(hn:i<gone.length):RbI gone lost (i+1) x:=by
 have⟨h0,h1,h2,h3,h4,h5,h6⟩:=h;rw[Vw_ hn h1] at h3 h4 h5 h6;rw[W1_] at h3;have :=(wtm_r (gt gone i.toNat).P_).1;simp only[A2] at h4;exact⟨h0,by omega,h2,by omega,by omega,λg q=>h5 g pX,λg q=>h6 g pX⟩
theorem rbmu_b{t k:Int}{n:Bs}(h:RbI gone lost i x)(hn:i<gone.length)(hr:y=F3_ x t k n)(hf:wtk (toK x.C_)+wto (gone.drop i.toNat)<f+1):wtk (toK y.C_)+wto (gone.drop (i+1).toNat)<f:=by
 have :y.C_=x.C_:=by rw[hr];rfl
 rw[this];exact rbmu_a h hn hf
theorem rbI_b{t k:Int}{n:Bs}(h:RbI gone lost i x)(hn:i<gone.length)(hr:y=F3_ x t k n):RbI gone (lost+1) (i+1) y:=by
 have hs:y.C_=x.C_:=by rw[hr];rfl
 have hy:RsOk y:=by rw[hr];exact (rs_note h.1 _ _ _).1
 have⟨h0,h1,h2,h3,h4,h5,h6⟩:=h;rw[Vw_ hn h1] at h3 h4 h5 h6;rw[W1_] at h3;have :=(wtm_r (gt gone i.toNat).P_).1;simp only[A2] at h4;exact⟨hy,by omega,by omega,by rw[hs];omega,by omega,λg q=>h5 g pX,λg q=>h6 g pX⟩
theorem rb_w{h:Int}{m:Mail}(hm:m.hops=h)(h0:0<=h)(h4:h<4):33*33 ^ (5-(h+1).toNat)=wtm m:=by
 unfold wtm;rw[hm];have :5-h.toNat=(5-(h+1).toNat)+1:=by omega
 rw[this,Nat.pow_succ,Nat.mul_comm]
theorem rbmu_c(h:RbI gone lost i x)(hn:i<gone.length)(hs:SnP x (gt gone i.toNat).P_.hops more e y)(he:e=0)(hf:wtk (toK x.C_)+wto (gone.drop i.toNat)<f+1):wtk (toK y.C_)+wto ((gone++more).drop (i+1).toNat)<f:=by
 have⟨k1,k2,k3,k4,k5,k6⟩:=hs he;have hm:=(rbI_at h hn).1;have hw:=rb_w Y hm.2.1 k1;have h1:=h.2.1;rw[Vw_ hn h1,W1_] at hf;rw[BH qX,wto_app];have h6:1<=33 ^ (5-((gt gone i.toNat).P_.hops+1).toNat):=Nat.one_le_pow _ _ qZ;omega
theorem rbI_c(h:RbI gone lost i x)(hn:i<gone.length)(hs:SnP x (gt gone i.toNat).P_.hops more e y)(he:e=0):RbI (gone++more) lost (i+1) y:=by
 have hmu:=rbmu_c (f:=wtk (toK x.C_)+wto (gone.drop i.toNat)) h hn hs he (C2 _);have⟨k1,k2,k3,k4,k5,k6⟩:=hs he;have⟨h0,h1,h2,h3,h4,h5,h6⟩:=h;have hd:(gone++more).drop (i+1).toNat=gone.drop (i+1).toNat++more:=BH qX;rw[Vw_ hn h1] at h5 h6;refine⟨k2,by omega,h2,by omega,?_,λg q=>?_,λg q=>?_⟩;rw[D5];omega
 . rw[hd] at q
   rcases List.mem_append.1 q with q|q
   exact h5 g pX
   exact k3 g q
 . rw[hd] at q
   rcases List.mem_append.1 q with q|q
   exact h6 g pX
   exact k4 g q
end
def RlI(tick:Int)(gone:List Er_)(name:Bs)(ok:Bool)(x:M_)(m:Mail):Prop:=RsOk x/\Aw_ (toK x.C_) tick=(name,m,ok)/\(∀ g∈gone,MlOk g.P_)/\(∀ g∈gone,Wh g.P_)/\gone.length+nik (toK x.C_)<=512
theorem rlate_eq{x:M_}(h:RsOk x)(t:Int):Mt_ x.C_ t=Aw_ (toK x.C_) t:=by
 have :=r21late (k:=toK x.C_) h.1.2.2 t;rw[fK_to] at this;exact this
theorem rlI0{s:M_}{t:Int}{r:Bs×Mail×Bool}(h:RsOk s)(hr:r=Mt_ s.C_ t):RlI t [] r.1 r.2.2 s r.2.1:=by
 refine⟨h,?_,(λ_ q=>by cases q),(λ_ q=>by cases q),?_⟩
 rw[hr,rlate_eq h];have :=nik_r (rs_g h).1;exact sY
section
variable{t:Int}{gone:List Er_}{name:Bs}{ok:Bool}{x:M_}{m:Mail}{f:Nat}{r1:Ac_×F_×Int}{r2:Bs×Mail×Bool}
theorem rl_rem(h:RsOk x)(hr:r1=Gd_ x.C_ name m.id):toK r1.1=(Ab_ (toK x.C_) name m.id).1/\r1.2=(Ab_ (toK x.C_) name m.id).2:=by
 have :=Uv_ (toK x.C_) name m.id;rw[fK_to] at this;rw[hr,this];exact⟨toK_f _,rfl⟩
theorem rlmu(h:RlI t gone name ok x m)(hk:ok=true)(hr:r1=Gd_ x.C_ name m.id)(hf:nik (toK x.C_)<f+1):nik (toK r1.1)<f:=by
 rw[(rl_rem h.1 hr).1];exact Ya_ (rs_g h.1).1 h.2.1 hk Y hf
theorem rlI_s(h:RlI t gone name ok x m)(hk:ok=true)(hr:r1=Gd_ x.C_ name m.id)(h2:r2=Mt_ r1.1 t):RlI t (gone++[(⟨name,m⟩:Er_)]) r2.1 r2.2.2 ⟨x.p,x.at_,x.book,r1.1,x.notes,x.seen,x.spent⟩ r2.2.1:=by
 have e1:=(rl_rem h.1 hr).1;have hl:=X9_ (gone:=gone) (g:=⟨name,m⟩) (rs_g h.1).1 h.2.1 hk Y h.2.2.2.2;have hg:SgOk r1.1:=by rw[hr];exact (sg_rem (rs_g h.1)).1
 have hx:=Zk_ h.1 hg;have hm1:MlOk m:=by
   have :=T5_ (t:=t) (rs_g h.1).1
   rw[h.2.1] at this;exact this
 have hm2:Wh m:=by
   have :=cloH.kt (t:=t) (rs_g h.1).2
   rw[h.2.1] at this;exact this
 refine⟨hx,?_,λg q=>?_,λg q=>?_,?_⟩;have :=rlate_eq hx t;rw[h2];exact this.symm
 . rcases List.mem_append.1 q with q|q
   exact h.2.2.1 g q
   rw[List.mem_singleton.1 q];exact hm1
 . rcases List.mem_append.1 q with q|q
   exact h.2.2.2.1 g q
   rw[List.mem_singleton.1 q];exact hm2
 show (gone++[(⟨name,m⟩:Er_)]).length+nik (toK r1.1)<=512;rw[e1];exact hl
end
def DgG(d:T_):Prop:=DdF d/\0<=d.kind
theorem dd_m{d:T_}(h:DgG d)(he:Dl_ d=0)(hk:d.kind=6\/d.kind=10):Wh d.P_/\d.P_.key.length<=1000:=by
 have⟨g1,g2,g3,g4,g5⟩:=Ix_ ((kinds h.2 he).2 hk);exact⟨⟨h.1.2.2.2.2.2.1,g3⟩,by omega⟩
theorem pol_base{p:H_}(h:(PV.agg (H_.pc p)).wf):∀ y∈p.places,U64 y.base:=λy hy=>by
 have :=h.2.2.1.2 y hy
 exact this.2.2.2.2.1
theorem rt_im{p:H_}{k:Int}{s:E_}{x:Aq_}(h:Rt p k s)(e1:x=A0_ s):ImOk x:=by
 subst e1;exact im_st h.ok h.b
theorem lb_of{p:H_}(h:(PV.agg (H_.pc p)).wf):∀ y∈p.places,LbOk y.label:=λy hy=>by
 have :=h.2.2.1.2 y hy
 exact⟨this.2.2.1,this.2.1⟩
theorem deed_g{l:List T_}{k:Nat}{d:T_}(h:(PV.sl T_.pc l).wf)(hd:l[k]? = some d):DgG d:=by
 refine⟨deed_f h hd,?_⟩;exact (T_.pwf (h.2 d (A1 hd))).1.1
theorem plays_new{p q:H_}{k:Int}{s:E_}{z:M_}(h1:s=Av_ p k)(h2:q=Gj_ p)(h3:z=Q9_ q k):z=fS s:=by
 subst h1;subst h2;subst h3;rw[to_eq];unfold Q9_ Zd_ Av_ lt Fc_ Cf_ fS fK;dsimp only;rw[Int.max_comm];rfl
theorem Km_{p q:H_}{k:Int}(h:0<=k/\k<p.places.length)(e:q=Gj_ p):0<=k/\k<q.places.length:=by
 subst e;rw[to_eq];exact h
theorem plays_do{p:H_}{k:Int}{s:E_}{q:M_}{d:T_}{t:E_×Ak_×Int}{u:M_×Ak_×Int}(h:Rt p k s)(hq:q=fS s)(hd:DgG d)(hL:∀ y∈p.places,LbOk y.label)(e1:t=Z_ s d)(e2:u=Zg_ q d):u=(fS t.1,t.2):=by
 subst e1;subst e2;subst hq;exact r23do h hd.1 hd.2 (by rw[h.po];exact hL)
theorem rs_rt{p:H_}{k:Int}{s:E_}{q:M_}(h:Rt p k s)(hq:q=fS s):RsOk q:=by
 subst hq;unfold RsOk;rw[toS_f];exact⟨⟨h.ok,h.b.2.1,h.g⟩,h.b.1⟩
end Go.SW.V
set_option maxRecDepth 8000
namespace Go.SW.V
open Go.SW
theorem nk1:numK 1=1:=by decide
theorem nk4:numK 4=4:=by decide
theorem nk8:numK 8=8:=by decide
theorem r19_l0:∀ (t:List D2_) (s:Bs),H4_ t s=s++t.flatMap So_
 |[],s=>by simp[H4_]
 |x::t,s=>by
   rw[H4_,r19_l0 t,nk1,nk8]
   simp[So_,A6]
theorem r19_eq(n:Bu_):Kx_ n=Mj_ n:=by
 unfold Kx_;rw[r19_l0,nk1,nk8];simp[Mj_,A6]
theorem ml_b{m:Mail}(h:MlF m):Br_ m=Qg_ m:=M9_ h.2.2 (λp hp=>(h.2.1 p hp).1.1)
theorem r20_l0:∀ (t:List Mail) (s:Bs),(∀ m∈t,MlF m)->F9_ t s=s++t.flatMap Br_
 |[],s,_=>by simp[F9_]
 |x::t,s,h=>by
   rw[F9_,r20_l0 t _ (λm hm=>h m (AI _ hm)),<- ml_b (h x (B8 ..))]
   simp[A6]
theorem r20_eq{x:Az_}(h:∀ m∈x.kept,MlF m):Ky_ x=B3_ x:=by
 unfold Ky_;rw[r20_l0 _ _ h,rb_eq,nk1,nk8];simp[A6]
theorem r21_l1:∀ (t:List F_) (s:Bs),(∀ x∈t,MlF x.P_)->H5_ t s=s++t.flatMap Os_
 |[],s,_=>by simp[H5_]
 |x::t,s,h=>by
   rw[H5_]
   unfold lt1
   dsimp only
   rw[r21_l1 t _ (λy hy=>h y (AI _ hy)),<- ml_b (h x (B8 ..)),nk1,BI,Os_]
   have e:(bif x.again then A0 .u64 ((bif x.Nr_ then 1 else 0)+2) else (bif x.Nr_ then 1 else 0))=Dj_ x:=by
     unfold Dj_
     cases x.again<;>cases x.Nr_<;>rfl
   rw[e]
   simp[A6]
theorem r21_l2(s:Ac_)(t:Bs)(hr:∀ i,i<16->∀ m∈(A16.get s.rises i).kept,MlF m):∀ (n f:Nat) (many:Nat) (up:Bs),n<=16->n<f->many+n<=16->H6_ s t f (many:Int) up (16-n)=t++(numB 1 (many+upN s.rises n)++(up++upB s.rises n))
 |_,0,_,_,_,h,_=>by omega
 |0,f+1,many,up,_,_,hm=>by
   rw[H6_]
   have e:(A0 .u64 (many:Int)).toNat=many:=by rw[FB];omega
   simp[upN,upB,e,nk1]
 |n+1,f+1,many,up,hn,hf,hm=>by
   rw[H6_,show 16-(n+1)=15-n by omega]
   have c1:decide (((15-n:Nat):Int)<16)=true:=by simp;omega
   have c3:15-n+1=16-n:=by omega
   rw[c1,cond_true,upN,upB,c3]
   by_cases c2:0<(A16.get s.rises (15-n)).total
   . rw[decide_eq_true c2,cond_true,if_pos c2,if_pos c2,show ((many:Int)+1)=((many+1:Nat):Int) by omega,r21_l2 s t hr n f (many+1) _ qX qX qX,r20_eq (hr _ qX),nk1,A7]
     simp only[A6,BY]
   . rw[decide_eq_false c2,cond_false,if_neg c2,if_neg c2,r21_l2 s t hr n f many _ qX qX qX]
     simp
theorem r21_l0(s:Ac_)(hr:∀ i,i<16->∀ m∈(A16.get s.rises i).kept,MlF m):∀ (t:List Fe_) (o:Bs),(∀ r∈t,∀ x∈r.l.items,MlF x.P_)->Hj_ s (t.map fRow) o=o++(t.flatMap rowB++(numB 1 (upN s.rises 16)++upB s.rises 16))
 |[],o,_=>by
   rw[DQ,Hj_]
   have :=r21_l2 s o hr 16 (16-0+1) 0 [] qX qX qX
   exact sY
 |r::t,o,h=>by
   rw[AG,Hj_]
   unfold lt1
   dsimp only
   rw[r21_l0 s hr t _ (λy hy=>h y (AI _ hy)),r21_l1 (fRow r).l _ (h r (B8 ..)),nk1,nk8,BI,rowB]
   simp[fRow,A6]
theorem r21_eq{k:G_}(hs:StkOk k)(hq:RoB k)(hg:KG k):Jq_ (fK k)=Y_ k:=by
 rw[ke hs hq];unfold Jq_;show Hj_ (fK k) (k.rows.map fRow) _=_;rw[r21_l0 (fK k) (λi hi=>(hg.2.2 i hi).2.2) _ _ (λr hr x hx=>((hg.2.1 r hr).2.2.2 x hx).1),nk1,nk8];simp[fK,A6]
def RsB(s:M_):Prop:=RbB s.book/\RkB s.C_/\RnB s.notes/\(∀ i,i<8->0<=(A8.get s.spent i).count/\(A8.get s.spent i).count<=16)/\(Jq_ s.C_).length<=3000000/\(Kx_ s.notes).length<=4000
theorem shopE_n{x:X_}(h:Kh_ x=0):x.name.length<=16/\x.to'.length<=16:=by
 have :=Vx_ h;constructor<;>omega
theorem mlf_b{m:Mail}(h:MlF m):MlB m:=⟨h.2.2,λp hp=>(h.2.1 p hp).1.1⟩
theorem rsb_of{p:H_}{k:Int}{s:E_}{q:M_}(h:Rt p k s)(hq:q=fS s):RsB q:=by
 subst hq;have⟨⟨b1,b2⟩,b3,b4⟩:=h.b;have⟨⟨c1,c2,c3⟩,⟨⟨d1,d2,d3⟩,d4,d5⟩,d6,d7⟩:=h.ok.1;have⟨g1,g2,g3⟩:=h.g;refine⟨⟨c1,λx hx=>shopE_n (b1 x hx).1,c2,λy hy=>?_⟩,⟨?_,λr hr=>?_,λi hi=>?_⟩,⟨d6,λx hx=>(b4 x hx).1⟩,d7,?_,?_⟩;have⟨e1,e2,e3,e4,e5⟩:=b2 y hy;exact⟨e1,O1_ e2,e3,e4⟩;simp only[fS,fK,List.length_map];exact d1;simp only[fS,fK,List.mem_map] at hr;obtain⟨z,hz,rfl⟩:=hr;have f1:=Pu_ (b3 z hz);have f2:=d2 z hz;have f3:=(g2 z hz).2.2.2;exact⟨by simp only[fRow];omega,by simp only[fRow];omega,f2.1,λy hy=>mlf_b (f3 y hy).1⟩;exact⟨(d4 i hi).1,λm hm=>mlf_b ((g3 i hi).2.2 m hm)⟩;show (Jq_ (fK s.x.C_)).length<=3000000;rw[r21_eq h.ok.1.2.1 h.b.2.1 h.g];exact kb_len h.ok.1.2.1 h.b.2.1;show (Kx_ s.x.notes).length<=4000;rw[r19_eq,<- nb_eq h.b.2.2];exact nb_len d6 h.b.2.2
def Jb_(s:M_):Nat->Bs->Nat->Bs
 |0,_,_=>default
 | f4+1,t3,v1=>(bif decide ((v1:Int)<8) then
 Jb_ s f4 ((t3++(numB (numK 8) ((A8.get s.spent v1).round).toNat))++(numB (numK 1) (A0 .u64 ((A8.get s.spent v1).count)).toNat)) (v1+1)
 else t3)
def Ja_(s:M_):Nat->Bs->Nat->Bs
 |0,_,_=>default
 | f5+1,t2,v=>(bif decide ((v:Int)<16) then
 Ja_ s f5 (t2++(numB (numK 8) (A16.get s.seen v).toNat)) (v+1)
 else Jb_ s (8-0+1) t2 0)
def Gx_(s:M_):List R_->Bs->Bs
 |[],t1=>lt (Jq_ s.C_) λr=>
 Ja_ s (16-0+1) (((t1++(numB (numK 4) (r.length:Int).toNat))++r)++(Kx_ s.notes)) 0
 |x::t4,t1=>Gx_ s t4 ((((((t1++(txtB (x.Al_)))++(txtB (x.to')))++(Ra_ (x.up)))++(txtB (x.key)))++(r9B (x.want)))++(Ra_ (x.all)))
def H7_(s:M_):List X_->Bs->Bs
 |[],t=>Gx_ s s.book.binds (t++(numB (numK 1) (s.book.binds.length:Int).toNat))
 |x1::t5,t=>H7_ s t5 (((t++(txtB (x1.name)))++(numB (numK 1) (x1.sort).toNat))++(txtB (x1.to')))
def K1_(s:M_):Bs:=
 H7_ s s.book.Ae_ (numB (numK 1) (s.book.Ae_.length:Int).toNat)
def Fa_(p:H_)(r:Int):List T_->E_->M_->Bool
 |[],x,x1=>lt (A0_ x) λr6=>
 lt (E0_ r6) λr7=>
 lt (Ld_ r7 p r) λr8=>
 (((decide (r7=(K1_ x1)))&&(decide (r8.2=0)))&&(Pd_ r8.1 (A0_ x)))
 |x2::t,x,x1=>lt (Z_ x x2) λr4=>
 lt (Zg_ x1 x2) λr5=>
 Fa_ p r t r4.1 r5.1
def Lw_(p:H_)(place:Int)(l:List T_):Bool:=
 (bif !(Ub_) then
 false
 else (bif ((!(Oe_ p))||(!(Ou_ l))) then
 true
 else lt (l23_At p place) λr=>
 lt (Av_ p r) λr1=>
 lt (Gj_ p) λr2=>
 lt (Q9_ r2 r) λr3=>
 Fa_ p r l r1 r3))
inductive EqL{α:Type _}(F G:Nat->α):List Nat->Prop
 |nil:EqL F G []
 |cons {k:Nat} {l:List Nat}:F k=G k->EqL F G l->EqL F G (k::l)
theorem EqL.map{α:Type _}{F G:Nat->α}:∀ {l:List Nat},EqL F G l->l.map F=l.map G
 |[],_=>rfl
 |k::l, .cons h hl=>by rw[AG,AG,h,hl.map]
variable{P:Program}{n:Nat}{N:Rest}{H0:Env}{fF:Nat->PV}{fL:Nat->Blk}
theorem nZ{ι:Type _}{keep kL:List Nat}{G:Nat->PV}{GL:Nat->Blk}{lv:ι->List (Nat×PV)}{lL:ι->List (Nat×Blk)}{Φ:ι->Prop}{μ:ι->Nat}{m:Nat}{ks:List Kt}{Q:Qs}(x':ι)(hΦ:Φ x')(h3:AllF fF (lv x'))(h4:AllL fL (lL x'))
   (h1:EqL fF G keep:=by ((repeat' (first|exact EqL.nil|refine EqL.cons ?_ ?_))<;>(conv=>lhs;whnf)<;>(conv=>rhs;whnf)<;>exact Y))
   (h2:EqL fL GL kL:=by ((repeat' (first|exact EqL.nil|refine EqL.cons ?_ ?_))<;>(conv=>lhs;whnf)<;>(conv=>rhs;whnf)<;>exact Y))
   (hm:μ x'<m:=by decide):Hd P n N H0 Q (.ex .normal) (.lp (LJ (λx=>⟨mkF (lv x) keep G,mkL (lL x) kL GL⟩) Φ μ m)::ks) ⟨fF,fL⟩:=next x' h1.map h2.map h3 h4 hm hΦ
end Go.SW.V
namespace Go.Proofs
open Go.Shelf
def Tryz.lays146_ren:Go.Shelf.Ren:=⟨λ|146=>353|221=>367|268=>384|138=>385|143=>386|195=>395|197=>396|218=>397|219=>398|260=>405|217=>406|225=>407|224=>408|267=>409|266=>412|314=>413|n=>n,λ|9=>9|31=>340|3=>3|4=>4|0=>0|105=>501|21=>21|5=>5|46=>307|119=>511|139=>514|138=>513|146=>515|51=>120|n=>n,λ|1=>0|3=>1|4=>2|n=>n⟩
theorem Tryz.lays146:Go.Proofs.Lays.n146 prog Tryz.lays146_ren:={
 mixed:=by kernel_rfl
 f138:=func385.trans (congrArg some qY)
 f143:=func386.trans (congrArg some qY)
 f146:=func353.trans (congrArg some qY)
 f195:=func395.trans (congrArg some qY)
 f197:=func396.trans (congrArg some qY)
 f217:=func406.trans (congrArg some qY)
 f218:=func397.trans (congrArg some qY)
 f219:=func398.trans (congrArg some qY)
 f221:=func367.trans (congrArg some qY)
 f224:=func408.trans (congrArg some qY)
 f225:=func407.trans (congrArg some qY)
 f260:=func405.trans (congrArg some qY)
 f266:=func412.trans (congrArg some qY)
 f267:=func409.trans (congrArg some qY)
 f268:=func384.trans (congrArg some qY)
 f314:=func413.trans (congrArg some qY)
 t0:=underlying0
 a0:=isAgg0
 z0:=sizeOf0
 v0:=zeroValue0
 t3:=underlying3
 a3:=isAgg3
 z3:=sizeOf3
 v3:=zeroValue3
 t4:=underlying4
 a4:=isAgg4
 z4:=sizeOf4
 v4:=zeroValue4
 t5:=underlying5
 a5:=isAgg5
 z5:=sizeOf5
 v5:=zeroValue5
 t9:=underlying9
 a9:=isAgg9
 z9:=sizeOf9
 v9:=zeroValue9
 t21:=underlying21
 a21:=isAgg21
 z21:=sizeOf21
 v21:=zeroValue21
 t31:=underlying340
 a31:=isAgg340
 z31:=sizeOf340
 v31:=zeroValue340
 t46:=underlying307
 a46:=isAgg307
 z46:=sizeOf307
 v46:=zeroValue307
 t51:=underlying120
 a51:=isAgg120
 z51:=sizeOf120
 v51:=zeroValue120
 t105:=underlying501
 a105:=isAgg501
 z105:=sizeOf501
 v105:=zeroValue501
 t119:=underlying511
 a119:=isAgg511
 z119:=sizeOf511
 t138:=underlying513
 a138:=isAgg513
 z138:=sizeOf513
 v138:=zeroValue513
 t139:=underlying514
 a139:=isAgg514
 z139:=sizeOf514
 v139:=zeroValue514
 t146:=underlying515
 a146:=isAgg515
 z146:=sizeOf515
 v146:=zeroValue515
 g1:=by kernel_rfl
 g3:=by kernel_rfl
 g4:=by kernel_rfl}
open Go.RowKit Go.Lib in
theorem Tryz.strings_Split(s sep:ByteArray)(m:Int)(w:World)(hs:s.size<4294967281)(hm:w.cell? ⟨0,0,none⟩=some (.int .i64 m))(h1:1<=sep.size) :
   Calls prog 353 #[.string s, .string sep] w λe w'=>
     e = .returned (.slice (some ⟨w.heap.size,0,none⟩) (Lib.countB s sep+1) (Lib.countB s sep+1))/\w'=w.alloc (.cells ((Lib.splitB sep 0 (Lib.countB s sep) s).map Value.string).toArray 9):=Any.strings_Split Tryz.lays146 qY s sep m w hs hm h1
end Go.Proofs
namespace Go.SW
open Go.Proofs
theorem strings_Split(H:Hp)(s p:Bs)(hp:p=[46])(hML:GInt H 0)(hs:s.length<4294967281):Ph prog 353 #[str s,str p] H (λv H'=>∃ (a:Option Addr) (c:Nat),v = .slice a (dots s).length c/\SlH strE 1 H' (.slice a (dots s).length c) (dots s)):=by
 subst hp;refine ph_strs (T:=9) (λw hw=>by have :=Vf_ s w hw;omega) λN L w hm=>have⟨m,hc⟩:=hML.cell hm;(Tryz.strings_Split ⟨s.toArray⟩ ⟨#[46]⟩ m w (by simpa [Mc_] using hs) hc qZ).mono λe w' ⟨he,hw⟩=>⟨?_,?_⟩;rw[he,splitB_len];rw[hw,Zp_]
theorem strings_SplitL(H:Hp)(s p:Bs)(hp:p=[10])(hML:GInt H 0)(hs:s.length<4294967281):Ph prog 353 #[str s,str p] H (λv H'=>∃ (a:Option Addr) (c:Nat),v = .slice a (cuts 10 s).length c/\SlH strE 1 H' (.slice a (cuts 10 s).length c) (cuts 10 s)):=by
 subst hp;refine ph_strs (T:=9) (λw hw=>by have :=Ve_ 10 s w hw;omega) λN L w hm=>have⟨m,hc⟩:=hML.cell hm;(Tryz.strings_Split ⟨s.toArray⟩ ⟨#[10]⟩ m w (by simpa [Mc_] using hs) hc qZ).mono λe w' ⟨he,hw⟩=>⟨?_,?_⟩;rw[he,splitB_clen];rw[hw,Zo_]
theorem ag290:Ag prog 290 false:=λw=>by kernel_rfl
theorem ag9:Ag prog 9 false:=λw=>by kernel_rfl
theorem fl293_0:Fld prog 293 0 0:=λb o w=>by kernel_rfl
theorem la293_293:liesAt prog prog.depth 293 (2/prog.cellsOf 293) 0 293 1=true:=by kernel_rfl
theorem ne320:NoEsc prog 320:=noEsc_of func320 qY qY qY qY
theorem sz290:Sz prog 290 1:=λw=>by kernel_rfl
theorem sz9:Sz prog 9 1:=λw=>by kernel_rfl
theorem ti293:∃ j,prog.info? 293=some j:=Option.isSome_iff_exists.1 qY
theorem tz293:∃ j,prog.info? 293=some j/\j.size≠0:=exInfo qY
set_option maxRecDepth 100000 in
theorem copyCheck{n:Nat}{N:Rest}{F:Fr}{H:Hp}{L:Ls}{ops:List Oper}{ty d:Nat}{pos:String}{af:Array Edge}{K:Fr->Hp->Ls->Prop}{x:Operand}{ats:Array TypeId}{b:Nat}{p v:Value}(i:Nat)(hx:ev F x = .pointer (some ⟨b,0,none⟩))(hi:L i=some (b,bx 293 [p,v]))
   (hp:p = .pointer none\/p = .pointer (some ⟨b,0,none⟩)) (hd:Nat.blt d n=true) (k:K (upd F d (.tuple #[])) H (lupd L i (some (b,bx 293 [.pointer (some ⟨b,0,none⟩),v])))):Op1 prog n N ops ⟨some d, .call ⟨.value (.func 261),#[x],ats⟩,ty,pos,af,none⟩ K F H L:=by
 refine op1_in (en_f (vs:=[.pointer (some ⟨b,0,none⟩)]) (At_ func261) (by simp[evs,hx])) func261 rfl ntmps261 rfl hd (K8_ (Gi_ (ol rfl (Lf_ (v:= .pointer (some ⟨_,_,none⟩)) rfl) (ol rfl (Ho_ rfl) (ol rfl (Fo_ rfl fl293_0)<|ol Y (Mo_ (i:=i) (v:=p) Y ag290 hi Y) ?_)))))
 rcases hp with rfl|rfl
 exact ol Y (lo_pnil Y Y underlying290) (L5_ (La_ (cw_cond_t Y Y (Gi_ (ol Y (Lf_ (v:= .pointer (some ⟨_,_,none⟩)) Y)<|ol Y (Lf_ (v:= .pointer (some ⟨_,_,none⟩)) Y) (ol Y (lo_toUnsafe (i:=i) Y hi Y underlying290 underlying447 (tz293).choose_spec.1 (tz293).choose_spec.2) (ol Y (lo_noEsc (v:= .pointer (some ⟨_,_,none⟩)) ne320 Y) (ol Y (lo_fromUnsafe (i:=i) Y hi underlying447 underlying290 (ti293).choose_spec la293_293) (ol Y (Ho_ Y) (ol Y (Fo_ Y fl293_0)<|ow1 (Mz_ (i:=i) (v:= .pointer (some ⟨_,_,none⟩)) Y Y Y sz290 hi Y<|L5_<|fnK_n (res0 Y) (.refl _) k)))))))))))
 . refine ol Y (lo_peq_nil Y Y underlying290) (L5_ (La_ (cw_cond_f Y Y (K8_ (Gi_ ?_)))))
   refine ol Y (Lf_ (v:= .pointer (some ⟨_,_,none⟩)) Y) (ol Y (Ho_ Y) (ol Y (Fo_ Y fl293_0) (ol Y (Mo_ (i:=i) (v:= .pointer (some ⟨b,0,none⟩)) Y ag290 hi Y) (ol Y (Lf_ (v:= .pointer (some ⟨_,_,none⟩)) Y) (ol Y (lo_pne_self Y Y underlying290 (ti293).choose_spec) ?_)))))
   refine L5_ (La_ (cw_cond_f Y Y (cw_skip (fnK_n (res0 Y) (.refl _) ?_))))
   rwa [lupd_eta hi] at k
theorem sz5:Sz prog 5 1:=λw=>by kernel_rfl
theorem ag167:Ag prog 167 true:=λw=>by kernel_rfl
theorem ag291:Ag prog 291 false:=λw=>by kernel_rfl
theorem by5:By prog 5 1:=by_of qY
theorem co5:prog.cellsOf 5=1:=by kernel_rfl
theorem fl167_0:Fld prog 167 0 0:=λb o w=>by kernel_rfl
theorem fl293_1:Fld prog 293 1 1:=λb o w=>by kernel_rfl
theorem mixd:prog.follows .mixedOrders=true:=by kernel_rfl
theorem sz167:Sz prog 167 2:=λw=>by kernel_rfl
theorem sz291:Sz prog 291 1:=λw=>by kernel_rfl
theorem zr167:Zr prog 167 [str [], .int .i64 0]:=λw=>⟨.agg #[str [], .int .i64 0],by kernel_rfl,rfl⟩
theorem zr293:Zr prog 293 [.pointer none, .slice none 0 0]:=λw=>⟨.agg #[.pointer none, .slice none 0 0],by kernel_rfl,rfl⟩
theorem zr5:Zr prog 5 [.int .u8 0]:=λw=>⟨.int .u8 0,by kernel_rfl,rfl⟩
theorem zx5:∃ z,∀ w,(zeroValue 5).run prog w = .ok z w:=⟨.int .u8 0,λw=>by kernel_rfl⟩
theorem out_Num(H:Hp)(o:Out)(n:Int)(n_r:0<=n/\n<=18446744073709551615)(bytes:Int)(bytes_r:-9223372036854775808<=bytes/\bytes<=9223372036854775807)(hlen:o.s.length<=4611686018427387904):Pr prog 59 #[.agg (Out.cells o).toArray, .int .u64 n, .int .i64 bytes] H (.agg (Out.cells (D_ o n bytes)).toArray):=by
 refine pr_cw func59 Y ntmps59 Y (λN=>?_);refine K8_ (Gi_ (ow1 (op1_box (cs:=[_,_]) 0 Y Y (λb1=>?_))));refine ow1 (Yv_ 1 Y zr167 (λb2=>?_));refine L5_ (La_ (K8_ (Gi_ (ow1 (Yv_ 2 Y zr293 (λb3=>?_))))));refine L5_ (La_ (K8_ (K8_ (Gi_ (omi Y Y<|ol Y (lo_max Y Y) (ol Y (lo_min Y Y) (ol Y (lo_sub Y Y Wa_) (oai Y Y (L5_ (La_<|cw_block<|cw_loop5 [8,13,14,15,16,17,18,19,20,21,22] [2,3,4] (λ(j:Nat) (bs:Bs) (p:Value) (v:Value) (en:Option (Nat×Obj)) G=>upd (G) 8 (.int .i64 ((j:Int)-1))) (λ(j:Nat) (bs:Bs) (p:Value) (v:Value) (en:Option (Nat×Obj)) G=>lupd (lupd (G) 2 (some (b3,bx 293 [p,v]))) 3 (en)) (λ(j:Nat) (bs:Bs) (p:Value) (v:Value) (en:Option (Nat×Obj)) H'=>bs++numB j n.toNat=numB (numK bytes) n.toNat/\bs.length+j=numK bytes/\OwnV 1 5 v en bs.length (bs.map u8v)/\(bs.length=0->v = .slice none 0 0)/\(p = .pointer none\/p = .pointer (some ⟨b3,0,none⟩))) (λ(j:Nat) (bs:Bs) (p:Value) (v:Value) (en:Option (Nat×Obj))=>j) (numK bytes) [] (.pointer none) (.slice none 0 0) none (upd_intro (mask_intro nT) (congrArg (GV .i64) (show min (max bytes 0) 8-1=((numK bytes:Nat):Int)-1 by unfold numK;omega))) (Rv_ (Rv_ (Yf_ offl_refl) Y) Y) ?_ ?_))))))))));exact⟨rfl,by simp,Ry_,λ_=>rfl, .inl rfl⟩;intro j bs p v en J5 JL5 H5 hp4 hl5;obtain⟨hk1,hk2,ho,hz,hpp⟩:=hp4;have hk8:numK bytes<=8:=by unfold numK;omega
 refine K8_ (K8_ (Gi_ (omi Y Y (ol Y (lo_geq Y Y) (L5_<|La_ (cw_cond Y (λh6=>?_) (λh6=>?_)))))));have p7:=dt h6;refine cw_skip (La_ (K8_ (cw_block (Gi_ (omi Y Y<|omi Y Y (ol Y (lo_mul Y Y Wa_) (ol Y (lo_shr Y Y qX) ?_)))))));have :=wr_u8 (GC n (2 ^ (min ((8*((j:Int)-1)):Int).toNat (AO .u64))));refine ol Y (lo_conv Y (by rw[underlying36];rfl) underlying5)<|ow1 (op1_in (en_f (At_ func158) Y) func158 Y ntmps158 Y Y<|K8_ (Gi_ (ol Y (M8_ Y) (L5_ (La_ (K8_<|Gi_ (ol Y (Lf_ (v:= .pointer (some ⟨_,_,none⟩)) Y)<|ow1 (copyCheck 2 Y Y hpp Y<|L5_ (La_ (K8_ (Gi_ (ol Y (Lf_ (v:= .pointer (some ⟨_,_,none⟩)) Y) (ol Y (Lf_ (v:= .pointer (some ⟨_,_,none⟩)) Y)<|ol Y (Ho_ Y) (ol Y (Fo_ Y fl293_1) (ol Y (Mo_ (i:=2) Y ag291 Y Y) (omi Y Y<|ow1 (op1_bslice (cs:=[_]) 4 Y underlying291 sz5 zx5 Y ⟨Y,Y,Z⟩ Y Y qZ (λb8=>?_))))))))))))))))));refine ow1 (op1_app 3 Y Y underlying291 underlying291 Y sz5 by5 qZ zr5 ho (src_bx (i:=4) Y Y) (List.all_eq_true.1 Y) Y qX Y (λv9 en10 ho11=>?_));have ho12:=byte_app (bs:=bs) ho11 (by first|rfl|simp) wrap8r;refine ol Y (Ho_ Y) (ol Y (Fo_ Y fl293_1)<|ow1 (Mz_ (i:=2) Y Y (ownV_one ho12) sz291 Y Y<|L5_ (La_ (K8_ (Gi_ (ol Y (M8_ Y) (L5_<|La_ (cw_ret (fnK_r (res1 Y (rv_t Y)) (.refl _) (L5_ (blkK_n (La_<|Gi_ (omi Y Y (ol Y (lo_sub Y Y Wa_) (oai Y Y (L5_<|next5 (j-1) (bs++[UInt8.ofNat ((A0 .u8 (GC n (2 ^ (min ((8*((j:Int)-1)):Int).toNat (AO .u64)))))).toNat]) (.pointer (some ⟨b3,0,none⟩)) v9 en10 (upd_intro (mask_intro nT) (congrArg (GV .i64) (show ((j:Int)-1)-1=((j-1:Nat):Int)-1 by omega))) (Rv_ (Rv_ (Yf_ (by first|exact offl_refl|(repeat (first|exact offl_mask|refine offl_upd Y ?_|refine offl_mask2 Y ?_)))) Y) Y) hl5 ?_ ?_))))))))))))))));refine⟨?_,?_,ho12,(nz_of ho12 pC), .inr rfl⟩;rw[byte_of n_r.1 qX qX,A6,<- hk1];obtain⟨q,rfl⟩:∃ q,j=q+1:=⟨j-1,by omega⟩;simp[numB];simp;omega;omega;have p13:=df h6;refine cw_exit (seqK_e (loopK_e (blkK_hit (La_ (K8_<|cw_anyX 3 mixd (vw_q 0 Y (λ_ _ hh hl=>Fo_ Y fl167_0)<|vw_q 1 Y (λ_ _ hh hl=>Mo_ (i:=0) (v:=str _) Y ag9 (hl _ _ Y) Y)<|vw_e 2 Y qY (op1_in (en_f (At_ func159) Y) func159 Y ntmps159 Y Y<|K8_ (Gi_ (ol Y (M8_ (v:=str _) Y) (L5_ (La_ (K8_<|cw_anyX 3 mixd<|vw_q 0 Y (λ_ _ hh hl=>Lf_ (v:= .pointer (some ⟨_,_,none⟩)) Y)<|vw_q 1 Y (λ_ _ hh hl=>Ho_ Y)<|vw_q 2 Y (λ_ _ hh hl=>Fo_ Y fl293_1)<|vw_q 3 Y (λ_ _ hh hl=>Mo_ (i:=2) Y ag291 (hl _ _ Y) Y)<|vw_q 4 Y (λ_ _ hh hl=>lo_usd Y ho hz)<|vw_q 5 Y (λ_ _ hh hl=>Lf_ (v:= .pointer (some ⟨_,_,none⟩)) Y)<|vw_q 6 Y (λ_ _ hh hl=>Ho_ Y)<|vw_q 7 Y (λ_ _ hh hl=>Fo_ Y fl293_1)<|vw_q 8 Y (λ_ _ hh hl=>Mo_ (i:=2) Y ag291 (hl _ _ Y) Y)<|vw_q 9 Y (λ_ _ hh hl=>lo_len_own Y ho underlying291)<|vw_e 10 Y qY (op1_ustr (l:=bs) 3 Y Y underlying396 co5 ho hz mJ Y<|⟨⟨(.refl _),pK⟩,?_⟩)))))))))))));refine vw_q 11 Y (λ_ _ hh hl=>M8_ (v:=str _) Y)<|vw_done qY (La_ (cw_ret (fnK_r (res1 Y (rv_t (v:=str _) Y)) (.refl _)<|⟨⟨(.refl _),pK⟩,?_⟩)));refine vw_q 3 Y (λ_ _ hh hl=>lo_cat Y Y mJ)<|vw_q 4 Y (λ_ _ hh hl=>Fo_ Y fl167_0)<|vw_t 5 Y qY qY (Mz_ (i:=0) (v:=str _) Y Y Y sz9 Y Y<|vw_done qY (La_ (K8_ (Gi_ (ol Y (Ww_ (i:=0) (vs:=[_,_]) Y ag167 sz167 Y Y Y)<|ow1 (op1_storeA (i:=1) (vs:=[_,_]) Y Y Y sz167 Y Y Y<|L5_ (La_ (cw_ret (fnK_r (res1 Y (rv_c (i:=1) (vs:=[_,_]) Y ag167 sz167 Y Y Y)) ((HLe.refl _).trans hl5) ?_)))))))));obtain rfl :j=0:=by omega
 simp only[numB,AS] at hk1;subst hk1;rfl
def posL:List Nat->Nat->Option Nat
 |[],_=>none
 |j::r,q=>bif Nat.beq q j then some 0 else (posL r q).map (· + 1)
def selL(L:Ls)(js:List Nat)(M:Ls):Ls:=λq=>match posL js q with
 |some a=>M a
 |none=>L q
def renP(js:List Nat):PV->PV
 | .osl l=>match nth js l with
   |some j=> .osl j
   |none=> .junk
 | .own l b o=>match nth js l with
   |some j=> .own j b o
   |none=> .junk
 |p=>p
def renB(js:List Nat):Blk->Blk
 | .box b T cs=> .box b T (cs.map (renP js))
 |B=>B
def inP(m:Nat):PV->Bool
 | .osl l=>Nat.blt l m
 | .own l _ _=>Nat.blt l m
 |_=>true
def inPs(m:Nat):List PV->Bool
 |[]=>true
 |p::r=>bif inP m p then inPs m r else false
def inB(m:Nat):Blk->Bool
 | .box _ _ cs=>inPs m cs
 |_=>true
def inBs(m:Nat):List Blk->Bool
 |[]=>true
 |B::r=>bif inB m B then inBs m r else false
variable{P:Program}{n:Nat}{N:Rest}{H0:Env}{all rest:List Oper}{Q:Qs}{ks:List Kt}{T ty d:Nat}{pos:String}{af:Array Edge}{x:Operand}{K:St->Prop}
def Blk.wf:Blk->Prop
 | .box _ _ cs=>PV.wfs cs
 | .arr _ _ _ enc xs=>PV.wf (.sl enc xs)
 |_=>True
def Blk.wfs:List Blk->Prop
 |[]=>True
 |B::r=>B.wf/\Blk.wfs r
end Go.SW
namespace Go.SW.V
open Go.SW
variable{P:Program}{n:Nat}{N:Rest}{H0:Env}{all rest:List Oper}{Q:Qs}{ks:List Kt}{fF:Nat->PV}{fL:Nat->Blk}{T ty d:Nat}{pos:String}{af:Array Edge}{x:Operand}{K:St->Prop}
end Go.SW.V
