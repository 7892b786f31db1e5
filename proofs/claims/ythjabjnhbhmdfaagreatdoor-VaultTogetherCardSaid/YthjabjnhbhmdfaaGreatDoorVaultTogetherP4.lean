/-
  A part of the proof of VaultTogether.
-/
import Derived.Test.YthjabjnhbhmdfaaGreatDoorVaultTogetherP3
import Derived.Test.YthjabjnhbhmdfaaGreatDoorVaultTogetherP2
import Derived.Test.YthjabjnhbhmdfaaGreatDoorVaultTogetherP1
import Derived.Below
import Derived.Laws.AppendOwn
import Derived.Lib.FieldsP
import Derived.Lib.ParseIntB
import Derived.Lib.SmallJoins
import Derived.Lib.ItoaLen
import Derived.Lib.Join
import Derived.Lib.LaidTab
set_option linter.unusedVariables false
set_option linter.unusedSimpArgs false
set_option maxRecDepth 100000
set_option maxHeartbeats 4000000
open BitVec renaming ofInt->AA
open Bool renaming and_eq_true->A4,not_eq_eq_eq_not->EL,not_eq_false'->AX,not_false->AF,not_true->A5,or_eq_false_iff->AG
open ByteArray renaming size->CF
open Go.IntKind renaming bits->A9,wrap->A0
open Go.Lib renaming countB->D7,count_miss->EE,goFieldsP->G3,index->B7,parseUintB->DZ,splitK->FQ
open Go.Value renaming pointer->CD
open Int renaming le_of_eq->GC,le_refl->BP,toNat_natCast->AV,toNat_of_nonneg->C6
open List renaming all_cons->EC,all_eq_true->D9,append_assoc->AW,append_nil->AT,cons_append->FI,drop_eq_getElem_cons->DY,drop_eq_nil_iff->ET,find?_eq_none->F7,flatten_cons->AN,flatten_nil->AU,getD_eq_getElem?_getD->BF,getElem?_eq_getElem->A7,getElem?_set->CG,getElem_map->CK,isPrefixOf->DP,length_append->A1,length_cons->A3,length_drop->B5,length_map->C8,length_nil->A6,map_append->CS,map_cons->BH,map_map->G4,map_nil->ES,mem_cons_of_mem->AC,mem_cons_self->AJ,mem_of_getElem?->A2,mem_of_mem_drop->AS,mem_or_eq_of_mem_set->CE,set_cons_succ->D1,set_cons_zero->F8,set_eq_of_length_le->E4,sum_cons->CZ,take_append_drop->B9,take_of_length_le->AL
open Nat renaming beq_refl->GB,le_trans->AM,lt_succ_self->BN,pow_le_pow_right->C5,sub_add_cancel->FC,zero_le->AQ
namespace Go.SW.V
open Go.SW
theorem bt{α:Type}{b:Bool}{x y:α}{P:α->Prop}(h1:b=true->P x)(h2:b=false->P y):P (bif b then x else y):=by
 cases b
 exact h2 Z;exact h1 Z
theorem Xn_{l:List V_}(h:T9_ l){i j:Nat}{x y:V_}(hi:l[i]? = some x)(hj:l[j]? = some y)(hij:i<j):x.Ad_.id<y.Ad_.id:=by
 have h1:=List.pairwise_iff_getElem.1 h i j;obtain⟨a,rfl⟩:=List.getElem?_eq_some_iff.1 hi;obtain⟨b,rfl⟩:=List.getElem?_eq_some_iff.1 hj;have h2:=h1 (by simpa using a) (by simpa using b) hij;rw[CK,CK] at h2;exact h2
theorem rising_app{l:List V_}{x:V_}(h:T9_ l)(hx:∀ y,l[l.length-1]? = some y->y.Ad_.id<x.Ad_.id):T9_ (l++[x]):=by
 unfold T9_;rw[CS,List.pairwise_append];refine⟨h,by simp,λa ha b hb=>?_⟩;obtain⟨y,hy,rfl⟩:=List.mem_map.1 ha;simp at hb;subst hb;obtain⟨i,hi⟩:=List.getElem?_of_mem hy;have hil:=(List.getElem?_eq_some_iff.1 hi).1;have hl:=A7 (l:=l) (i:=l.length-1) rV;have h1:=hx _ hl;by_cases e:i=l.length-1
 . subst e;rw[hl] at hi;cases hi;exact h1
 exact Int.lt_trans (Xn_ h hi hl rV) h1
theorem lput_ok{l:As_}{x:V_}(h:LnOk l)(h0:0<=x.Ad_.hops):LnOk (Gd_ l x).1:=by
 unfold Gd_ lt;refine bt (P:=λr:As_×Int=>LnOk r.1) (λ_=>h) λe=>?_;simp only[EL,AF,decide_eq_true_eq] at e;obtain⟨h1,h2,h3⟩:=lcheck_ok e;refine⟨by simp;omega,λy hy=>?_,?_⟩
 . simp[Cw_,lt,M_] at hy
   rcases hy with hy|rfl
   exact h.2.1 y hy
   exact mlOk_of h1 h0
 . show T9_ ([l.items,[Cw_ x]].flatten)
   simp only[AN,AU,AT]
   refine rising_app h.2.2 λy hy=>?_
   have hl:=(List.getElem?_eq_some_iff.1 hy).1
   rcases h3 with q|q
   omega
   . have :((l.items.length:Int)-1).toNat=l.items.length-1:=by omega
     rw[this] at q
     rw[getG (xs:=l.items) (k:=l.items.length-1) rV] at hy
     cases hy
     exact q
theorem ladd_ok{l:As_}{m:Mail}(h:LnOk l)(h0:0<=m.hops):LnOk (Dm_ l m).1:=lput_ok (x:=⟨m,false,false⟩) h h0
theorem Io_:MlOk ⟨0,[],[],[],[],0,0⟩:=⟨by simp,by simp,by simp,by simp⟩
theorem Mp_{α:Type}[Inhabited α]{xs:List α}{k:Nat}(h:k<xs.length):gt xs k∈xs:=A2 (getG h)
theorem Zm_{α:Type}(l:List α)(k:Nat):([l.take k,l.drop (k+1)].flatten).Sublist l:=by
 simp only[AN,AU,AT];have h:l=l.take k++l.drop k:=(B9 k l).symm
 conv=>rhs;rw[h]
 refine List.Sublist.append (List.Sublist.refl _) ?_;rw[<- List.drop_drop];exact List.drop_sublist 1 _
theorem T1_{l:As_}{id:Int}(h:LnOk l):LnOk (A9_ l id).1/\MlOk (A9_ l id).2.1.Ad_:=by
 unfold A9_ lt;refine bt (P:=λr:As_×V_×Int=>LnOk r.1/\MlOk r.2.1.Ad_) (λ_=>⟨h,Io_⟩) λe=>?_;simp only[decide_eq_false_iff_not] at e;have hb:=lof_b l id;refine⟨h.sub ?_,?_⟩;have :(D2_ l id+1).toNat=(D2_ l id).toNat+1:=by omega
 rw[this];exact Zm_ _ _;exact h.2.1 _ (Mp_ rV)
theorem W5_{l:As_}{k:Nat}{y:V_}(h:LnOk l)(hk:k<l.items.length)(he:y.Ad_=(gt l.items k).Ad_):LnOk ⟨l.items.set k y⟩:=by
 have hm:=h.2.1 _ (Mp_ hk);refine⟨by simpa using h.1,λx hx=>?_,?_⟩
 . rcases CE hx with q|q
   exact h.2.1 x q
   subst q;rw[he];exact hm
 show T9_ (l.items.set k y);unfold T9_;rw[Ps_ (λx:V_=>x.Ad_.id) l.items k _ y (getG hk) (by rw[he])];exact h.2.2
theorem llend_ok{l:As_}(h:LnOk l):LnOk (Eb_ l).1/\MlOk (Eb_ l).2.1.Ad_:=by
 unfold Eb_ lt;refine bt (P:=λr:As_×V_×Bool=>LnOk r.1/\MlOk r.2.1.Ad_) (λ_=>⟨h,Io_⟩) λe=>?_;simp only[decide_eq_false_iff_not] at e;have hb:=Vb_ l;have hm:=h.2.1 _ (Mp_ (xs:=l.items) (k:=(Fq_ l).toNat) rV);refine⟨W5_ h rV Z,?_⟩;simp only[Cw_,lt,M_];rw[gt_set rV];exact hm
theorem lback_ok{l:As_}{id:Int}(h:LnOk l):LnOk (Fo_ l id).1:=by
 unfold Fo_ lt;refine bt (P:=λr:As_×Int=>LnOk r.1) (λ_=>h) λe=>?_;refine bt (P:=λr:As_×Int=>LnOk r.1) (λ_=>h) λ_=>?_;simp only[decide_eq_false_iff_not] at e;have hb:=lof_b l id;exact zG
theorem W9_:∀ (t:List V_) (k:Nat) (l:As_),LnOk l->k+t.length<=l.items.length->LnOk (C2_ t k l)
 |[],_,_,h,_=>h
 |x::t,k,l,h,hk=>by
   simp only[A3] at hk
   unfold C2_
   refine bt (P:=LnOk) (λ_=>W9_ t (k+1) _ ?_ qK) (λ_=>W9_ t (k+1) l h rV)
   exact zG
theorem lwake_ok{l:As_}(h:LnOk l):LnOk (Hc_ l):=W9_ l.items 0 l h rV
theorem ltold_ok{l:As_}{k:Int}(h:LnOk l)(hk:k<l.items.length):MlOk (Ey_ l k).1:=by
 unfold Ey_ lt;refine bt (P:=λr:Mail×Bool=>MlOk r.1) (λ_=>Io_) λe=>?_;simp only[decide_eq_false_iff_not] at e;exact h.2.1 _ (Mp_ rV)
theorem llate_ok{l:As_}{t:Int}(h:LnOk l):MlOk (Hb_ l t).1:=ltold_ok h (llate_b l t).2
theorem lsize_r0:∀ (t:List V_) (n:Int),n<=Cb_ t n/\Cb_ t n<=n+3000*t.length
 |[],n=>⟨Int.le_refl _,by simp[Cb_]⟩
 |x::t,n=>by
   have h:=Xr_ x.Ad_
   have hi:=lsize_r0 t (n+Dt_ x.Ad_)
   simp only[Cb_,lt,A3]
   omega
theorem lsize_r(l:As_):0<=Fp_ l/\Fp_ l<=3000*l.items.length:=by
 have :=lsize_r0 l.items 0;simp only[Fp_];omega
theorem rsize_r0:∀ (t:List Mail) (n:Int),n<=A7_ t n/\A7_ t n<=n+3000*t.length
 |[],n=>⟨Int.le_refl _,by simp[A7_]⟩
 |x::t,n=>by
   have h:=Xr_ x
   have hi:=rsize_r0 t (n+Dt_ x)
   simp only[A7_,lt,A3]
   omega
theorem rsize_r(x:Ag_):0<=B8_ x/\B8_ x<=3000*x.kept.length:=by
 have :=rsize_r0 x.kept 0;simp only[B8_];omega
theorem rput_ok{x:Ag_}{m:Mail}(h:RiOk x):RiOk (Dc_ x m).1:=by
 unfold Dc_ lt;refine bt (P:=λr:Ag_×Int=>RiOk r.1) (λ_=>h) λe=>?_;refine bt (P:=λr:Ag_×Int=>RiOk r.1) (λ_=>h) λ_=>?_;simp only[EL,AF,decide_eq_true_eq] at e;have hm:=(M8_ (Ol_ e).2.2.1).1;refine⟨by simp;omega,λy hy=>?_⟩;have hy:=AS hy;simp[M_] at hy
 rcases hy with hy|rfl
 exact h.2 y hy;exact hm
theorem at_b(s:I_)(n:Bs):-1<=An_ s n/\An_ s n<s.rows.length:=Q4_ _ _
theorem at_n{s:I_}{n:Bs}(h:0<=An_ s n):(gt s.rows (An_ s n).toNat).q.name=n:=by
 have :=idxP_gt h;exact of_decide_eq_true this
def Ba_(s:I_)(q:T_):I_×Int:=
 lt (Ef_ q) λr=>
 (bif !decide (r=0) then
 (s,r)
 else lt (An_ s q.name) λr1=>
 (bif ((decide (0<=r1))&&(decide ((gt s.rows ((r1).toNat)).q=q))) then
 (s,0)
 else (bif decide (0<=r1) then
 (s,9)
 else (bif decide (8<=(s.rows.length:Int)) then
 (s,12)
 else ((⟨s.next,s.bytes,[s.rows,[(⟨q,(⟨[]⟩:As_)⟩:Hh_)]].flatten,s.rises⟩:I_),0)))))
def C4_(s:I_)(name:Bs):I_×Int:=
 lt (An_ s name) λr=>
 (bif decide (r<0) then
 (s,10)
 else ((⟨s.next,s.bytes,[(s.rows.take (r).toNat),(s.rows.drop ((r+1)).toNat)].flatten,s.rises⟩:I_),0))
def Ax_(s:I_)(name:Bs):T_×Bool:=
 lt (An_ s name) λr=>
 (bif decide (r<0) then
 ((⟨[],0,0,[]⟩:T_),false)
 else ((gt s.rows ((r).toNat)).q,true))
def Ev_:List Hh_->List T_->(List T_)
 |[],out=>out
 |x::t,out=>Ev_ t (out++[x.q])
def B1_(s:I_):(List T_):=
 Ev_ s.rows []
def A5_(s:I_)(k:Int)(l:As_):I_:=
 (⟨s.next,s.bytes,(s.rows.set ((k).toNat) (⟨(gt s.rows ((k).toNat)).q,l⟩:Hh_)),s.rises⟩:I_)
def Dh_(s:I_):Nat->Int->Nat->Int
 |0,_,_=>default
 | f2+1,n1,v=>(bif decide ((v:Int)<16) then
 lt (B8_ (A16.get s.rises v)) λr1=>
 Dh_ s f2 (n1+r1) (v+1)
 else n1)
def Br_(s:I_):List Hh_->Int->Int
 |[],n=>Dh_ s (16-0+1) n 0
 |x::t,n=>lt (Fp_ (x.l)) λr=>
 Br_ s t (n+r)
def C5_(s:I_):Int:=
 Br_ s s.rows 0
def L2_(s:I_):Int:=
 s.next
theorem ksize1{s:I_}(h:∀ i,i<16->RiOk (s.rises.get i)):∀ (f:Nat) (n:Int) (v:Nat),16<f+v->v<=16->n<=Dh_ s f n v/\Dh_ s f n v<=n+48000*(16-v)
 |0,n,v,h1,h2=>by omega
 |f+1,n,v,h1,h2=>by
   unfold Dh_ lt
   refine bt (P:=λr:Int=>n<=r/\r<=n+48000*(16-(v:Int))) (λe=>?_) λe=>⟨Int.le_refl _,by omega⟩
   simp only[decide_eq_true_eq] at e
   have hr:=rsize_r (s.rises.get v)
   have hk:=(h v rV).1
   have hi:=ksize1 h f (n+B8_ (s.rises.get v)) (v+1) rV rV
   dsimp only
   omega
theorem ksize0{s:I_}(h:∀ i,i<16->RiOk (s.rises.get i)):∀ (t:List Hh_) (n:Int),(∀ r∈t,LnOk r.l)->n<=Br_ s t n/\Br_ s t n<=n+192000*t.length+768000
 |[],n,_=>by
   have :=ksize1 h (16-0+1) n 0 rV rV
   simp only[Br_,A6];omega
 |x::t,n,hl=>by
   have hr:=lsize_r x.l
   have hk:=(hl x (AJ ..)).1
   have hi:=ksize0 h t (n+Fp_ x.l) λr hr=>hl r (AC _ hr)
   simp only[Br_,lt,A3]
   omega
theorem ksize_r(s:I_)(h:StkOk s):0<=C5_ s/\C5_ s<=2304000:=by
 have :=ksize0 h.2.1 s.rows 0 h.1.2.1;have :=h.1.1;simp only[C5_];omega
theorem at_neg{s:I_}{n:Bs}(h:An_ s n<0):∀ x∈s.rows,x.q.name≠n:=λx hx e=>by
 have :=idxP_neg h
 rw[F7] at this
 exact this x hx (decide_eq_true e)
theorem Qg_{s:I_}{q:T_}(h:StkOk s):StkOk (Ba_ s q).1:=by
 unfold Ba_ lt;refine bt (P:=λr:I_×Int=>StkOk r.1) (λ_=>h) λ_=>?_;refine bt (P:=λr:I_×Int=>StkOk r.1) (λ_=>h) λ_=>?_;refine bt (P:=λr:I_×Int=>StkOk r.1) (λ_=>h) λe=>?_;refine bt (P:=λr:I_×Int=>StkOk r.1) (λ_=>h) λe1=>?_;simp only[decide_eq_false_iff_not] at e e1;have hn:=at_neg (s:=s) (n:=q.name) rV;refine⟨⟨by simp;omega,λr hr=>?_,?_⟩,h.2⟩
 . simp at hr
   rcases hr with hr|rfl
   exact h.1.2.1 r hr
   exact Sw_
 simp only[AN,AU,AT,CS,BH,ES];rw[List.nodup_append];refine⟨h.1.2.2,by simp,λa ha b hb=>?_⟩;obtain⟨x,hx,rfl⟩:=List.mem_map.1 ha;rw[List.mem_singleton.1 hb];exact hn x hx
theorem kdrop_ok{s:I_}{n:Bs}(h:StkOk s):StkOk (C4_ s n).1:=by
 unfold C4_ lt;refine bt (P:=λr:I_×Int=>StkOk r.1) (λ_=>h) λe=>?_;simp only[decide_eq_false_iff_not] at e;have :(An_ s n+1).toNat=(An_ s n).toNat+1:=by omega
 refine⟨h.1.sub ?_,h.2⟩;show List.Sublist [s.rows.take _,s.rows.drop _].flatten _;rw[this];exact Zm_ _ _
theorem Qh_{s:I_}{k:Int}{l:As_}(h:StkOk s)(hl:LnOk l)(hk:0<=k/\k<s.rows.length):StkOk (A5_ s k l):=
 ⟨h.1.set (getG rV) Z hl,h.2⟩
theorem kroom_r0{s:I_}(h:StkOk s):-2304000<=s.bytes-C5_ s/\s.bytes-C5_ s<=1000000:=by
 have :=ksize_r s h;have :=h.2.2;omega
end Go.SW.V
namespace Go.SW.V
open Go.SW
theorem V8_(s:I_)(k:Int)(l:As_):(A5_ s k l).rows.length=s.rows.length:=by simp[A5_]
def Gt_(s:I_):Int:=
 (s.bytes-(C5_ s))
theorem kroom_r(s:I_)(h:StkOk s):-2304000<=Gt_ s/\Gt_ s<=1000000:=kroom_r0 h
def A8_(s:I_)(name:Bs)(m:Mail):I_×Int×Mail×Int:=
 lt (An_ s name) λr=>
 (bif decide (r<0) then
 (s,0,(⟨0,[],[],[],[],0,0⟩:Mail),10)
 else (bif !decide ((Ja_ m)=0) then
 (s,0,(⟨0,[],[],[],[],0,0⟩:Mail),Ja_ m)
 else (bif decide (s.next = 0) then
 (s,0,(⟨0,[],[],[],[],0,0⟩:Mail),18)
 else (lp2 ((bif decide (((gt s.rows ((r).toNat)).q.most)<=(A0 .u64 (Ft_ ((gt s.rows ((r).toNat)).l)))) then
 lt (Gg_ ((gt s.rows ((r).toNat)).l)) λr1=>
 (bif !r1.2 then
 .ret (s,0,(⟨0,[],[],[],[],0,0⟩:Mail),12)
 else lt (A9_ ((gt s.rows ((r).toNat)).l) r1.1.id) λr2=>
 .fin (r2.1,r1.1))
 else .fin ((gt s.rows ((r).toNat)).l,(⟨0,[],[],[],[],0,0⟩:Mail)))) (λx x1=>
 (bif decide (((Gt_ s)+(Dt_ x1))<(Dt_ (⟨s.next,m.Bl_,m.key,m.head,m.body,m.due,m.hops⟩:Mail))) then
 (s,0,(⟨0,[],[],[],[],0,0⟩:Mail),12)
 else lt (Dm_ x (⟨s.next,m.Bl_,m.key,m.head,m.body,m.due,m.hops⟩:Mail)) λr3=>
 (bif !decide (r3.2=0) then
 (s,0,(⟨0,[],[],[],[],0,0⟩:Mail),r3.2)
 else lt (A5_ s r r3.1) λr4=>
 ((⟨(A0 .u64 (r4.next + 1)),r4.bytes,r4.rows,r4.rises⟩:I_),s.next,x1,0)))) (λr=>r)))))
def Ct_(s:I_)(name:Bs):I_×V_×Bool:=
 lt (An_ s name) λr=>
 (bif decide (r<0) then
 (s,(⟨(⟨0,[],[],[],[],0,0⟩:Mail),false,false⟩:V_),false)
 else lt (Eb_ ((gt s.rows ((r).toNat)).l)) λr1=>
 lt (A5_ s r r1.1) λr2=>
 (r2,r1.2.1,r1.2.2))
def Dp_(s:I_)(name:Bs)(id:Int):I_×Int:=
 lt (An_ s name) λr=>
 (bif decide (r<0) then
 (s,10)
 else lt (Fo_ ((gt s.rows ((r).toNat)).l) id) λr1=>
 lt (A5_ s r r1.1) λr2=>
 (r2,r1.2))
def At_(s:I_)(name:Bs)(id:Int):I_×V_×Int:=
 lt (An_ s name) λr=>
 (bif decide (r<0) then
 (s,(⟨(⟨0,[],[],[],[],0,0⟩:Mail),false,false⟩:V_),10)
 else lt (A9_ ((gt s.rows ((r).toNat)).l) id) λr1=>
 lt (A5_ s r r1.1) λr2=>
 (r2,r1.2.1,r1.2.2))
def Cf_(s:I_)(place:Int)(m:Mail):I_×Int:=
 (bif ((decide (place<0))||(decide (16<=place))) then
 (s,7)
 else lt (Dc_ (A16.get s.rises ((place).toNat)) m) λr=>
 (bif !decide (r.2=0) then
 (s,r.2)
 else (bif decide (s.bytes<(((C5_ s)-(B8_ (A16.get s.rises ((place).toNat))))+(B8_ (r.1)))) then
 (s,12)
 else ((⟨s.next,s.bytes,s.rows,(A16.set s.rises (r.1) ((place).toNat))⟩:I_),0))))
def B5_(tick:Int):List Hh_->Bs×Mail×Bool
 |[]=>([],(⟨0,[],[],[],[],0,0⟩:Mail),false)
 |x::t=>lt (Hb_ (x.l) tick) λr=>
 (bif r.2 then
 (x.q.name,r.1,true)
 else B5_ tick t)
def Ar_(s:I_)(tick:Int):Bs×Mail×Bool:=
 B5_ tick s.rows
def Ci_:List Hh_->Nat->I_->I_
 |[],k,x=>x
 |x1::t,k,x=>lt (Hc_ (x1.l)) λr=>
 lt (A5_ x (k:Int) r) λr1=>
 Ci_ t (k+1) r1
def Ff_(s:I_):I_:=
 Ci_ s.rows 0 s
def LoP{σ ρ:Type}(I:σ->Prop)(R:ρ->Prop):Lo σ ρ->Prop
 | .fin s=>I s
 | .ret r=>R r
theorem lp0E{ρ β:Type}{P:β->Prop}{o:Lo Unit ρ}{f:β}{g:ρ->β}(I:Unit->Prop)(ho:LoP I (λr=>P (g r)) o)(hf:I ()->P f):P (lp0 o f g):=by
 cases o with
 |fin s=>exact hf ho
 |ret r=>exact ho
theorem lp1E{σ ρ β:Type}{P:β->Prop}{o:Lo σ ρ}{f:σ->β}{g:ρ->β}(I:σ->Prop)(ho:LoP I (λr=>P (g r)) o)(hf:∀ a,I a->P (f a)):P (lp1 o f g):=by
 cases o with
 |fin s=>exact hf _ ho
 |ret r=>exact ho
theorem lp2E{σ τ ρ β:Type}{P:β->Prop}{o:Lo (σ×τ) ρ}{f:σ->τ->β}{g:ρ->β}(I:σ×τ->Prop)(ho:LoP I (λr=>P (g r)) o)(hf:∀ a b,I (a,b)->P (f a b)):P (lp2 o f g):=by
 cases o with
 |fin s=>exact hf _ _ ho
 |ret r=>exact ho
def wtm(m:Mail):Nat:=33 ^ (5-m.hops.toNat)
def wtl(l:List V_):Nat:=(l.map λx=>wtm x.Ad_).sum
def wtk(s:I_):Nat:=(s.rows.map λr=>wtl r.l.items).sum
def wto(l:List H2_):Nat:=(l.map λx=>wtm x.Ad_).sum
def wt1(m:Mail):Nat:=bif decide (m.Bl_=[]) then 0 else wtm m
theorem sum_cut{α:Type}[Inhabited α](f:α->Nat)(l:List α)(k:Nat)(h:k<l.length):(([l.take k,l.drop (k+1)].flatten).map f).sum+f (gt l k)=(l.map f).sum:=by
 have e:l=l.take k++(gt l k::l.drop (k+1)):=by
   conv=>lhs;rw[<- B9 k l]
   congr 1
   rw[DY h]
   congr 1
   simp[gt,h]
 have e2:(l.map f).sum=((l.take k++(gt l k::l.drop (k+1))).map f).sum:=by rw[<- e]
 rw[e2];simp only[AN,AU,AT,CS,BH,List.sum_append,CZ];omega
theorem sum_set{α:Type}[Inhabited α](f:α->Nat):∀ (l:List α) (k:Nat) (y:α),k<l.length->((l.set k y).map f).sum+f (gt l k)=(l.map f).sum+f y
 |[],k,y,h=>by cases h
 |a::r,0,y,h=>by simp[gt];omega
 |a::r,k+1,y,h=>by
   have :=sum_set f r k y qU
   simp only[D1,BH,CZ]
   have e:gt (a::r) (k+1)=gt r k:=by simp[gt]
   rw[e];omega
theorem lof_self{l:As_}(h:LnOk l){k:Nat}(hk:k<l.items.length):D2_ l (gt l.items k).Ad_.id=k:=by
 have h0:0<=D2_ l (gt l.items k).Ad_.id:=by
   refine Int.not_lt.1 λq=>?_
   have :=idxP_neg q
   rw[F7] at this
   exact this _ (Mp_ hk) (decide_eq_true Z)
 have hb:=lof_b l (gt l.items k).Ad_.id;have ha:=lof_at h0;obtain⟨j,hj⟩:∃ j:Nat,D2_ l (gt l.items k).Ad_.id=j:=⟨_,(C6 h0).symm⟩;rw[hj] at ha hb ⊢;simp only[AV] at ha;have hjl:j<l.items.length:=by omega
 rcases Nat.lt_trichotomy j k with q|q|q
 have :=Xn_ h.2.2 (getG hjl) (getG hk) q;omega;rw[q];have :=Xn_ h.2.2 (getG hk) (getG hjl) q;omega
theorem lfirst_at{l:As_}(h:(Gg_ l).2=true):∃ k:Nat,k<l.items.length/\(Gg_ l).1=(gt l.items k).Ad_:=by
 have hb:=Vb_ l;unfold Gg_ lt Ey_ lt at h ⊢;dsimp only at h ⊢
 cases e:decide (Fq_ l<0) with
 |true=>rw[e] at h;cases h
 |false=>
   simp only[decide_eq_false_iff_not] at e
   exact⟨(Fq_ l).toNat,by omega,rfl⟩
theorem lremove_w{l:As_}(h:LnOk l){k:Nat}(hk:k<l.items.length):wtl (A9_ l (gt l.items k).Ad_.id).1.items+wtm (gt l.items k).Ad_=wtl l.items:=by
 unfold A9_ lt;dsimp only;rw[lof_self h hk];have e:decide ((k:Int)<0)=false:=by simp
 rw[e];have :=sum_cut (λx:V_=>wtm x.Ad_) l.items k hk;exact this
theorem ladd_w{l:As_}{m:Mail}(h:(Dm_ l m).2=0):wtl (Dm_ l m).1.items=wtl l.items+wtm m:=by
 unfold Dm_ Gd_ lt at h ⊢;dsimp only at h ⊢
 cases e:decide (Hj_ l m=0) with
 |false=>rw[e] at h;simp at h;simp[h] at e
 |true=>
   simp[wtl,Cw_,lt,M_]
theorem kwith_w{s:I_}{k:Int}{l:As_}(hk:0<=k/\k<s.rows.length):wtk (A5_ s k l)+wtl (gt s.rows k.toNat).l.items=wtk s+wtl l.items:=
 sum_set (λr:Hh_=>wtl r.l.items) s.rows k.toNat ⟨(gt s.rows k.toNat).q,l⟩ rV
theorem kput_ok{s:I_}{n:Bs}{m:Mail}(h:StkOk s)(h0:0<=m.hops):StkOk (A8_ s n m).1/\MlOk (A8_ s n m).2.2.1/\((A8_ s n m).2.2.2=0->Ja_ m=0/\wtk (A8_ s n m).1+wt1 (A8_ s n m).2.2.1<=wtk s+wtm m):=by
 unfold A8_ lt;let Q:I_×Int×Mail×Int->Prop:=λr=>StkOk r.1/\MlOk r.2.2.1/\(r.2.2.2=0->Ja_ m=0/\wtk r.1+wt1 r.2.2.1<=wtk s+wtm m);have hno:∀ e:Int,e≠0->Q (s,0,⟨0,[],[],[],[],0,0⟩,e):=λe he=>⟨h,Io_,λq=>(he q).elim⟩;refine bt (P:=Q) (λ_=>hno _ rX) λe=>?_;refine bt (P:=Q) (λe=>hno _ qY) λec=>?_;refine bt (P:=Q) (λ_=>hno _ rX) λ_=>?_;simp only[decide_eq_false_iff_not] at e;have ec':Ja_ m=0:=by simpa using ec
 have hb:=at_b s n;obtain⟨k,hk⟩:∃ k:Nat,An_ s n=k:=⟨_,(C6 rV).symm⟩;rw[hk] at hb ⊢;simp only[AV];have hl:LnOk (gt s.rows k).l:=RwsOk.at h.1 (getG rV);refine lp2E (P:=Q) (λq=>LnOk q.1/\MlOk q.2/\wtl q.1.items+wt1 q.2<=wtl (gt s.rows k).l.items) ?_ λx x1 hx=>?_;refine bt (P:=LoP _ _) (λ_=>?_) λ_=>⟨hl,Io_,by simp[wt1]⟩;refine bt (P:=LoP _ _) (λ_=>hno _ rX) λe2=>?_;obtain⟨j,hj,he⟩:=lfirst_at (l:=(gt s.rows k).l) (by simpa using e2);have hw:=lremove_w hl hj;show LnOk _/\MlOk _/\_;rw[he];refine⟨(T1_ hl).1,hl.2.1 _ (Mp_ hj),?_⟩;have :wt1 (gt (gt s.rows k).l.items j).Ad_<=wtm (gt (gt s.rows k).l.items j).Ad_:=by
   unfold wt1
   cases decide ((gt (gt s.rows k).l.items j).Ad_.Bl_=[])<;>simp
 simp only;omega;obtain⟨hx1,hx2,hx3⟩:=hx;refine bt (P:=Q) (λ_=>hno _ rX) λ_=>?_;refine bt (P:=Q) (λe3=>hno _ (by simpa using e3)) λe3=>?_;have e3':(Dm_ x ⟨s.next,m.Bl_,m.key,m.head,m.body,m.due,m.hops⟩).2=0:=by simpa using e3
 have ha:=ladd_w e3';have hok:=ladd_ok (l:=x) (m:=⟨s.next,m.Bl_,m.key,m.head,m.body,m.due,m.hops⟩) hx1 h0;have hw:=kwith_w (s:=s) (k:=(k:Int)) (l:=(Dm_ x ⟨s.next,m.Bl_,m.key,m.head,m.body,m.due,m.hops⟩).1) rV;have hs:=Qh_ (k:=(k:Int)) h hok rV;refine⟨hs,hx2,λ_=>⟨ec',?_⟩⟩;simp only[AV] at hw;show wtk (A5_ s k _)+wt1 x1<=_;have he:wtm ⟨s.next,m.Bl_,m.key,m.head,m.body,m.due,m.hops⟩=wtm m:=rfl;rw[he] at ha;have hx4:wtl x.items+wt1 x1<=wtl (gt s.rows k).l.items:=hx3;rw[ha] at hw;omega
theorem klend_ok{s:I_}{n:Bs}(h:StkOk s):StkOk (Ct_ s n).1/\MlOk (Ct_ s n).2.1.Ad_:=by
 unfold Ct_ lt;refine bt (P:=λr:I_×V_×Bool=>StkOk r.1/\MlOk r.2.1.Ad_) (λ_=>⟨h,Io_⟩) λe=>?_;simp only[decide_eq_false_iff_not] at e;have hb:=at_b s n;have hl:=llend_ok (RwsOk.at h.1 (getG (xs:=s.rows) (k:=(An_ s n).toNat) rV));exact⟨Qh_ h hl.1 rV,hl.2⟩
theorem kback_ok{s:I_}{n:Bs}{id:Int}(h:StkOk s):StkOk (Dp_ s n id).1:=by
 unfold Dp_ lt;refine bt (P:=λr:I_×Int=>StkOk r.1) (λ_=>h) λe=>?_;simp only[decide_eq_false_iff_not] at e;have hb:=at_b s n;exact Qh_ h (lback_ok (RwsOk.at h.1 (getG (xs:=s.rows) (k:=(An_ s n).toNat) rV))) rV
theorem Kf_{s:I_}{n:Bs}{id:Int}(h:StkOk s):StkOk (At_ s n id).1/\MlOk (At_ s n id).2.1.Ad_:=by
 unfold At_ lt;refine bt (P:=λr:I_×V_×Int=>StkOk r.1/\MlOk r.2.1.Ad_) (λ_=>⟨h,Io_⟩) λe=>?_;simp only[decide_eq_false_iff_not] at e;have hb:=at_b s n;have hl:=T1_ (id:=id) (RwsOk.at h.1 (getG (xs:=s.rows) (k:=(An_ s n).toNat) rV));exact⟨Qh_ h hl.1 rV,hl.2⟩
theorem kraise_ok{s:I_}{p:Int}{m:Mail}(h:StkOk s):StkOk (Cf_ s p m).1/\(Cf_ s p m).1.rows=s.rows:=by
 unfold Cf_ lt;let Q:I_×Int->Prop:=λr=>StkOk r.1/\r.1.rows=s.rows;refine bt (P:=Q) (λ_=>⟨h,rfl⟩) λe=>?_;refine bt (P:=Q) (λ_=>⟨h,rfl⟩) λ_=>?_;refine bt (P:=Q) (λ_=>⟨h,rfl⟩) λ_=>?_;simp only[AG,decide_eq_false_iff_not] at e;exact⟨h.set p.toNat rV (rput_ok (h.2.1 _ rV)),rfl⟩
theorem kwake_ok0:∀ (t:List Hh_) (k:Nat) (s:I_),StkOk s->(∀ r∈t,LnOk r.l)->k+t.length<=s.rows.length->StkOk (Ci_ t k s)
 |[],_,_,h,_,_=>h
 |x::t,k,s,h,hl,hk=>by
   simp only[A3] at hk
   unfold Ci_ lt
   refine kwake_ok0 t (k+1) _ (Qh_ h (lwake_ok (hl x (AJ ..))) rV) (λr hr=>hl r (AC _ hr)) ?_
   simp[A5_];omega
theorem kwake_ok{s:I_}(h:StkOk s):StkOk (Ff_ s):=kwake_ok0 s.rows 0 s h h.1.2.1 rV
theorem klate_ok0{t:Int}:∀ (l:List Hh_),(∀ r∈l,LnOk r.l)->MlOk (B5_ t l).2.1
 |[],_=>Io_
 |x::l,h=>by
   unfold B5_ lt
   refine bt (P:=λr:Bs×Mail×Bool=>MlOk r.2.1) (λ_=>llate_ok (h x (AJ ..))) (λ_=>klate_ok0 l λr hr=>h r (AC _ hr))
theorem U8_{s:I_}{t:Int}(h:StkOk s):MlOk (Ar_ s t).2.1:=klate_ok0 s.rows h.1.2.1
def Ce_(so_p:O_->Bool):List O_->List O_->(List O_)
 |[],out=>out
 | x::t,out=>(bif so_p x then
 Ce_ so_p t (out++[x])
 else Ce_ so_p t out)
def Hn_(b:Az_)(so_p:O_->Bool):(List O_):=
 Ce_ so_p b.binds []
def M6_(x:O_)(x1:Bs):Bool:=
 (x.up||(!decide (x.to'=x1)))
def Fj_(b:Az_)(queue:Bs):Az_:=
 lt (Hn_ b (λz_5:O_=>(M6_ z_5 queue))) λr=>
 (⟨b.D3_,r⟩:Az_)
def E8_(x:W_)(x1:Bs):Bool:=
 (decide (x.name=x1))
def Qb_(x:O_)(x1:Bs):Bool:=
 (!decide (x.Bl_=x1))
def Fb_(b:Az_)(name:Bs):Az_×Int:=
 (bif decide ((idxP (λz_5:W_=>(E8_ z_5 name)) b.D3_)<0) then
 (b,10)
 else lt (Hn_ (⟨[(b.D3_.take (idxP (λz_5:W_=>(E8_ z_5 name)) b.D3_).toNat),(b.D3_.drop (((idxP (λz_5:W_=>(E8_ z_5 name)) b.D3_)+1)).toNat)].flatten,b.binds⟩:Az_) (λz_18:O_=>(Qb_ z_18 name))) λr=>
 ((⟨[(b.D3_.take (idxP (λz_5:W_=>(E8_ z_5 name)) b.D3_).toNat),(b.D3_.drop (((idxP (λz_5:W_=>(E8_ z_5 name)) b.D3_)+1)).toNat)].flatten,r⟩:Az_),0))
def Ee_(b:Az_)(x:O_):Az_×Int:=
 lt (Fe_ b x) λr=>
 (bif decide (r<0) then
 (b,10)
 else ((⟨b.D3_,[(b.binds.take (r).toNat),(b.binds.drop ((r+1)).toNat)].flatten⟩:Az_),0))
def E4_(p:F_)(place:Int)(x:Ac_):D_:=
 (⟨x,p,place⟩:D_)
def Bu_(p:F_)(place:Int):D_:=
 lt (Dw_ ((gt p.places ((place).toNat)).base) ((gt p.places ((place).toNat)).bytes)) λr=>
 lt (E4_ p place (⟨(⟨[],[]⟩:Az_),r,(⟨0,[]⟩:By_),(⟨0,0,0,0,0,0,0,0,0,0,0,0,0,0,0,0⟩:A16_u64),(⟨(⟨0,0⟩:Aj_),(⟨0,0⟩:Aj_),(⟨0,0⟩:Aj_),(⟨0,0⟩:Aj_),(⟨0,0⟩:Aj_),(⟨0,0⟩:Aj_),(⟨0,0⟩:Aj_),(⟨0,0⟩:Aj_)⟩:A8_SpentR)⟩:Ac_)) λr1=>
 r1
def Lv_(own:Int)(tick:Int)(life:Int):Int:=
 (bif ((decide (life=0))||(decide ((A0 .u64 (18446744073709551615-tick))<life))) then
 own
 else (bif decide (own=0) then
 (A0 .u64 (tick+life))
 else (min own (A0 .u64 (tick+life)))))
def Aa_(s:D_):Ac_:=
 s.x
def Cu_(s:D_)(tick:Int)(kind:Int)(text:Bs):D_:=
 lt (D7_ s.x.notes (⟨tick,kind,text⟩:Ea_)) λr=>
 (⟨(⟨s.x.book,s.x.E_,r.1,s.x.seen,s.x.spent⟩:Ac_),s.U_,s.place⟩:D_)
theorem keep_eq0(p:O_->Bool):∀ (t out:List O_),Ce_ p t out=out++t.filter p
 |[],out=>by simp[Ce_]
 |x::t,out=>by
   unfold Ce_
   cases e:p x with
   |true=>simp[keep_eq0 p t,e]
   |false=>simp[keep_eq0 p t,e]
theorem keep_eq(b:Az_)(p:O_->Bool):Hn_ b p=b.binds.filter p:=by simp[Hn_,keep_eq0]
theorem bk_filter{b:Az_}(h:BkOk b)(p:O_->Bool)(l:List W_)(hl:l.length<=8):BkOk ⟨l,b.binds.filter p⟩:=
 ⟨hl,AM (List.length_filter_le ..) h.2.1,λy hy=>h.2.2 y (List.mem_filter.1 hy).1⟩
theorem bforget_ok{b:Az_}{q:Bs}(h:BkOk b):BkOk (Fj_ b q):=by
 unfold Fj_ lt;rw[keep_eq];exact bk_filter h _ _ h.1
theorem bdrop_ok{b:Az_}{n:Bs}(h:BkOk b):BkOk (Fb_ b n).1:=by
 unfold Fb_ lt;refine bt (P:=λr:Az_×Int=>BkOk r.1) (λ_=>h) λe=>?_;simp only[decide_eq_false_iff_not] at e;dsimp only;rw[keep_eq];refine bk_filter h _ _ ?_;have hs:=h.1;have hc:=(Zm_ b.D3_ (idxP (λz_5:W_=>E8_ z_5 n) b.D3_).toNat).length_le;have :(idxP (λz_5:W_=>E8_ z_5 n) b.D3_+1).toNat=(idxP (λz_5:W_=>E8_ z_5 n) b.D3_).toNat+1:=by omega
 rw[this];omega
theorem bunbind_ok{b:Az_}{x:O_}(h:BkOk b):BkOk (Ee_ b x).1:=by
 unfold Ee_ lt;refine bt (P:=λr:Az_×Int=>BkOk r.1) (λ_=>h) λe=>?_;simp only[decide_eq_false_iff_not] at e;have hc:=Zm_ b.binds (Fe_ b x).toNat;have :(Fe_ b x+1).toNat=(Fe_ b x).toNat+1:=by omega
 dsimp only;rw[this];exact⟨h.1,AM hc.length_le h.2.1,λy hy=>h.2.2 y (hc.subset hy)⟩
theorem bmake_ok{b:Az_}{x:W_}(h:BkOk b):BkOk (Dd_ b x).1:=by
 unfold Dd_;refine bt (P:=λr:Az_×Int=>BkOk r.1) (λ_=>h) λ_=>?_;refine bt (P:=λr:Az_×Int=>BkOk r.1) (λ_=>h) λ_=>?_;refine bt (P:=λr:Az_×Int=>BkOk r.1) (λ_=>h) λ_=>?_;refine bt (P:=λr:Az_×Int=>BkOk r.1) (λ_=>h) λe=>?_;simp only[decide_eq_false_iff_not] at e;exact⟨by simp;omega,h.2⟩
theorem bbind_ok{b:Az_}{x:O_}(h:BkOk b)(hx:x.key.length<=1000):BkOk (B0_ b x).1:=by
 unfold B0_ lt;refine bt (P:=λr:Az_×Int=>BkOk r.1) (λ_=>h) λ_=>?_;refine bt (P:=λr:Az_×Int=>BkOk r.1) (λ_=>h) λ_=>?_;refine bt (P:=λr:Az_×Int=>BkOk r.1) (λ_=>h) λ_=>?_;refine bt (P:=λr:Az_×Int=>BkOk r.1) (λ_=>h) λ_=>?_;refine bt (P:=λr:Az_×Int=>BkOk r.1) (λ_=>h) λ_=>?_;refine bt (P:=λr:Az_×Int=>BkOk r.1) (λ_=>h) λe=>?_;simp only[decide_eq_false_iff_not] at e;refine⟨h.1,by simp;omega,λy hy=>?_⟩;simp at hy
 rcases hy with hy|rfl
 exact h.2.2 y hy;exact hx
theorem Lb_{s:D_}{t k:Int}{x:Bs}(h:StOk s):StOk (Cu_ s t k x)/\(Cu_ s t k x).x.E_=s.x.E_:=
 ⟨⟨⟨h.1.1,h.1.2.1,nadd_len h.1.2.2.1,h.1.2.2.2⟩,h.2⟩,rfl⟩
theorem Mq_{p:F_}{k:Int}(h:PoOk p)(hk:0<=k/\k<p.places.length):StOk (Bu_ p k):=by
 have hb:=h.2.2.2.2.2.2 _ (Mp_ (xs:=p.places) (k:=k.toNat) rV);refine⟨⟨⟨by simp[Bu_,lt,E4_],by simp[Bu_,lt,E4_],by simp[Bu_,lt,E4_]⟩,⟨⟨by simp[Bu_,lt,E4_,Dw_],by simp[Bu_,lt,E4_,Dw_],by simp[Bu_,lt,E4_,Dw_]⟩,λi hi=>?_,?_,?_⟩,by simp[Bu_,lt,E4_],λi hi=>?_⟩,h,hk⟩;have :(Bu_ p k).x.E_.rises.get i=⟨0,[]⟩:=by
   unfold Bu_ lt E4_ Dw_
   unfold A16.get
   repeat' split
   all_goals rfl
 rw[this];exact⟨by simp,by simp⟩;show 0<=max 0 _;omega;show max 0 (gt p.places k.toNat).bytes<=_;omega;have :(Bu_ p k).x.spent.get i=⟨0,0⟩:=by
   unfold Bu_ lt E4_ Dw_
   unfold A8.get
   repeat' split
   all_goals rfl
 rw[this];simp
theorem rput_len(l:List Bs)(s:Bs):(Iq_ l s).length<=l.length+1:=by
 unfold Iq_
 cases decide (s∈l)<;>simp
theorem Qi_(b:Az_)(n k:Bs)(h:List Pair):∀ (t:List O_) (q p:List Bs),(Bq_ b n k h t q p).1.length<=q.length+t.length/\(Bq_ b n k h t q p).2.1.length<=p.length+t.length
 |[],q,p=>⟨by simp[Bq_],by simp[Bq_]⟩
 |x::t,q,p=>by
   unfold Bq_ lt lt1
   let Q:List Bs×List Bs×Int->Prop:=λr=>r.1.length<=q.length+(x::t).length/\r.2.1.length<=p.length+(x::t).length
   have h0:=Qi_ b n k h t q p
   have h1:=Qi_ b n k h t q (Iq_ p x.to')
   have h2:=Qi_ b n k h t (Iq_ q x.to') p
   have h3:=rput_len p x.to'
   have h4:=rput_len q x.to'
   refine bt (P:=Q) (λ_=>?_) λ_=>bt (P:=Q) (λ_=>?_) λ_=>?_
   all_goals (show _/\_;simp only[A3];omega)
theorem Wu_{b:Az_}(n k:Bs)(h:List Pair)(hb:BkOk b):(Cs_ b n k h).1.length<=32/\(Cs_ b n k h).2.1.length<=33:=by
 unfold Cs_;let Q:List Bs×List Bs×Int->Prop:=λr=>r.1.length<=32/\r.2.1.length<=33;refine bt (P:=Q) (λ_=>⟨by simp,by simp⟩) λ_=>bt (P:=Q) (λ_=>⟨by simp,by simp⟩) λ_=>?_;have h0:=Qi_ b n k h b.binds [] [];have :=hb.2.1;simp only[A6] at h0;exact⟨by omega,by omega⟩
def C8_(s:D_)(to_:Int)(tick:Int):D_×Int:=
 lt (Bf_ s.U_ s.place to_) λr=>
 (bif decide (r<0) then
 (s,19)
 else (lt1 (lt (My_ s.U_ tick) λr1=>
 (bif !decide (((A8.get s.x.spent ((r).toNat)).round)=r1) then
 (⟨r1,0⟩:Aj_)
 else (A8.get s.x.spent ((r).toNat)))) (λx=>
 (bif decide (((gt s.U_.grants ((r).toNat)).budget)<=x.count) then
 (s,19)
 else lt (Cu_ (⟨(⟨s.x.book,s.x.E_,s.x.notes,s.x.seen,(A8.set s.x.spent (⟨x.round,(x.count+1)⟩:Aj_) ((r).toNat))⟩:Ac_),s.U_,s.place⟩:D_) tick 2 ((gt s.U_.places ((to_).toNat)).name)) λr2=>
 (r2,0)))))
def B2_(s:D_)(d:G_):D_×Int:=
 (bif decide (d.kind=2) then
 lt (Ba_ s.x.E_ d.queue) λr=>
 ((⟨(⟨s.x.book,r.1,s.x.notes,s.x.seen,s.x.spent⟩:Ac_),s.U_,s.place⟩:D_),r.2)
 else lt (C4_ s.x.E_ d.name) λr1=>
 (bif decide (r1.2=0) then
 lt (Fj_ s.x.book d.name) λr2=>
 ((⟨(⟨r2,r1.1,s.x.notes,s.x.seen,s.x.spent⟩:Ac_),s.U_,s.place⟩:D_),r1.2)
 else ((⟨(⟨s.x.book,r1.1,s.x.notes,s.x.seen,s.x.spent⟩:Ac_),s.U_,s.place⟩:D_),r1.2)))
def C6_(s:D_)(d:G_):D_×Af_×Int:=
 lt (Ax_ s.x.E_ d.name) λr=>
 (bif !r.2 then
 (s,(⟨(⟨(⟨0,[],[],[],[],0,0⟩:Mail),false,false⟩:V_),0,0⟩:Af_),10)
 else lt (Ct_ s.x.E_ d.name) λr1=>
 (bif !r1.2.2 then
 (s,(⟨(⟨(⟨0,[],[],[],[],0,0⟩:Mail),false,false⟩:V_),0,0⟩:Af_),15)
 else ((⟨(⟨s.x.book,r1.1,s.x.notes,s.x.seen,s.x.spent⟩:Ac_),s.U_,s.place⟩:D_),(⟨r1.2.1,0,0⟩:Af_),0)))
def Cg_(s:D_)(d:G_):D_×Int:=
 (bif decide (d.kind=0) then
 (lp0 (lt (Dz_ s.U_ d.Bl_.to') λr=>
 (bif decide (d.Bl_.sort=4) then
 (bif decide (r<0) then
 .ret (s,10)
 else lt (Bf_ s.U_ s.place r) λr1=>
 (bif decide (r1<0) then
 .ret (s,11)
 else .fin ()))
 else .fin ())) (
 lt (Dd_ s.x.book d.Bl_) λr2=>
 ((⟨(⟨r2.1,s.x.E_,s.x.notes,s.x.seen,s.x.spent⟩:Ac_),s.U_,s.place⟩:D_),r2.2)) (λr=>r))
 else (bif decide (d.kind=1) then
 lt (Fb_ s.x.book d.name) λr3=>
 ((⟨(⟨r3.1,s.x.E_,s.x.notes,s.x.seen,s.x.spent⟩:Ac_),s.U_,s.place⟩:D_),r3.2)
 else (bif decide (d.kind=5) then
 lt (Ee_ s.x.book d.bind) λr4=>
 ((⟨(⟨r4.1,s.x.E_,s.x.notes,s.x.seen,s.x.spent⟩:Ac_),s.U_,s.place⟩:D_),r4.2)
 else lt (Ax_ s.x.E_ d.bind.to') λr5=>
 (lp0 (lt (Dz_ s.U_ d.bind.to') λr6=>
 (lt1 ((bif (d.bind.up&&(decide (r6<0))) then
 (d.bind.up&&(decide (r6<0)))
 else ((!d.bind.up)&&(!r5.2)))) (λv=>
 (bif v then
 .ret (s,10)
 else (bif (d.bind.up&&(!(F8_ s.U_ s.place r6))) then
 .ret (s,11)
 else .fin ()))))) (
 lt (B0_ s.x.book d.bind) λr7=>
 ((⟨(⟨r7.1,s.x.E_,s.x.notes,s.x.seen,s.x.spent⟩:Ac_),s.U_,s.place⟩:D_),r7.2)) (λr=>r)))))
theorem lt1E{σ β:Type}{P:β->Prop}{o:σ}{f:σ->β}(I:σ->Prop)(ho:I o)(hf:∀ a,I a->P (f a)):P (lt1 o f):=hf _ ho
theorem spend_ok{s:D_}{to' t:Int}(h:StOk s):StOk (C8_ s to' t).1/\(C8_ s to' t).1.x.E_=s.x.E_:=by
 unfold C8_ lt;let Q:D_×Int->Prop:=λr=>StOk r.1/\r.1.x.E_=s.x.E_;have hn:∀ e,Q (s,e):=λe=>⟨h,rfl⟩;refine bt (P:=Q) (λ_=>hn _) λe=>?_;simp only[decide_eq_false_iff_not] at e;have hg:=grant_in h.2.1 s.place to' rV;have hb:=grant_b s.U_ s.place to';have hl:=h.2.1.2.2.2.2.1;have hu:=h.1.2.2.2;refine lt1E (P:=Q) (λx:Aj_=>0<=x.count) ?_ λx hx=>?_;refine bt (P:=λx:Aj_=>0<=x.count) (λ_=>?_) λ_=>?_;exact BP _;exact (hu _ rV).1
 . refine bt (P:=Q) (λ_=>hn _) λe2=>?_
   simp only[decide_eq_false_iff_not] at e2
   refine Lb_ (s:=⟨⟨s.x.book,s.x.E_,s.x.notes,s.x.seen,_⟩,s.U_,s.place⟩) ⟨⟨h.1.1,h.1.2.1,h.1.2.2.1,λi hi=>?_⟩,h.2⟩
   show 0<=((s.x.spent.set _ _).get i).count/\_
   dsimp only
   rw[A8.get_set _ _ _ _ rV hi]
   split
   exact⟨by show 0<=x.count+1;omega,by show x.count+1<=16;omega⟩
   exact hu i hi
theorem Oa_{s:D_}{b:Az_}(h:StOk s)(hb:BkOk b):StOk ⟨⟨b,s.x.E_,s.x.notes,s.x.seen,s.x.spent⟩,s.U_,s.place⟩:=⟨⟨hb,h.1.2⟩,h.2⟩
theorem Ca_{s:D_}{k:I_}(h:StOk s)(hk:StkOk k):StOk ⟨⟨s.x.book,k,s.x.notes,s.x.seen,s.x.spent⟩,s.U_,s.place⟩:=⟨⟨h.1.1,hk,h.1.2.2⟩,h.2⟩
theorem queues_ok{s:D_}{d:G_}(h:StOk s):StOk (B2_ s d).1:=by
 unfold B2_ lt;let Q:D_×Int->Prop:=λr=>StOk r.1;refine bt (P:=Q) (λ_=>Ca_ h (Qg_ h.1.2.1)) λ_=>?_;refine bt (P:=Q) (λ_=>?_) λ_=>Ca_ h (kdrop_ok h.1.2.1);exact Oa_ (s:=⟨⟨s.x.book,_,s.x.notes,s.x.seen,s.x.spent⟩,s.U_,s.place⟩) (Ca_ h (kdrop_ok h.1.2.1)) (bforget_ok h.1.1)
theorem lend_ok{s:D_}{d:G_}(h:StOk s):StOk (C6_ s d).1/\MlOk (C6_ s d).2.1.item.Ad_:=by
 unfold C6_ lt;let Q:D_×Af_×Int->Prop:=λr=>StOk r.1/\MlOk r.2.1.item.Ad_;refine bt (P:=Q) (λ_=>⟨h,Io_⟩) λ_=>?_;refine bt (P:=Q) (λ_=>⟨h,Io_⟩) λ_=>?_;have :=klend_ok (n:=d.name) h.1.2.1;exact⟨Ca_ h this.1,this.2⟩
theorem shops_ok{s:D_}{d:G_}(h:StOk s)(hd:DdOk d):StOk (Cg_ s d).1:=by
 unfold Cg_ lt;let Q:D_×Int->Prop:=λr=>StOk r.1;have hn:∀ e,Q (s,e):=λe=>h;refine bt (P:=Q) (λ_=>?_) λ_=>?_;refine lp0E (P:=Q) (λ_=>True) ?_ λ_=>Oa_ h (bmake_ok h.1.1);refine bt (P:=LoP _ _) (λ_=>?_) λ_=>trivial;exact wD;refine bt (P:=Q) (λ_=>Oa_ h (bdrop_ok h.1.1)) λ_=>?_;refine bt (P:=Q) (λ_=>Oa_ h (bunbind_ok h.1.1)) λ_=>?_;refine lp0E (P:=Q) (λ_=>True) ?_ λ_=>Oa_ h (bbind_ok h.1.1 hd.1);exact rT
end Go.SW.V
namespace Go.SW.V
open Go.SW
theorem Lg_(n:Int):0<=IntKind.wrap .u8 n:=by
 exact tZ
def Bg_(s:D_)(m:Mail)(tick:Int)(r:(List Bs)×(List Bs)×Int)(gone:List H2_):List Bs->Int->D_->D_×(List H2_)×Int×Int
 |[],n1,x1=>(x1,gone,n1,0)
 |x3::t,n1,x1=>lt (Dz_ x1.U_ x3) λr4=>
 (lp1 ((bif decide ((((H1_ s.x.book.D3_ m.Bl_).getD W_.zero).sort)=4) then
 lt (C8_ x1 r4 tick) λr5=>
 (bif !decide (r5.2=0) then
 .ret (s,[],0,r5.2)
 else .fin r5.1)
 else .fin x1)) (λx2=>
 lt (Cf_ x2.x.E_ r4 (⟨0,m.Bl_,m.key,m.head,m.body,m.due,m.hops⟩:Mail)) λr6=>
 (bif !decide (r6.2=0) then
 (s,[],0,r6.2)
 else Bg_ s m tick r gone t (n1+1) (⟨(⟨x2.x.book,r6.1,x2.x.notes,x2.x.seen,x2.x.spent⟩:Ac_),x2.U_,x2.place⟩:D_))) (λr=>r))
def Ao_(s:D_)(m:Mail)(tick:Int)(r:(List Bs)×(List Bs)×Int):List Bs->List H2_->Int->D_->D_×(List H2_)×Int×Int
 |[],gone,n,x=>Bg_ s m tick r gone r.2.1 n x
 |x4::t1,gone,n,x=>lt (Ax_ x.x.E_ x4) λr1=>
 (bif !r1.2 then
 Ao_ s m tick r t1 gone n x
 else lt (Lv_ m.due tick r1.1.life) λr2=>
 lt (A8_ x.x.E_ x4 (⟨0,m.Bl_,m.key,m.head,m.body,r2,m.hops⟩:Mail)) λr3=>
 (bif !decide (r3.2.2.2=0) then
 (s,[],0,r3.2.2.2)
 else (bif !decide (r3.2.2.1.Bl_=[]) then
 Ao_ s m tick r t1 (gone++[(⟨x4,r3.2.2.1⟩:H2_)]) (n+1) (⟨(⟨x.x.book,r3.1,x.x.notes,x.x.seen,x.x.spent⟩:Ac_),x.U_,x.place⟩:D_)
 else Ao_ s m tick r t1 gone (n+1) (⟨(⟨x.x.book,r3.1,x.x.notes,x.x.seen,x.x.spent⟩:Ac_),x.U_,x.place⟩:D_))))
def Ah_(s:D_)(m:Mail)(tick:Int):D_×(List H2_)×Int×Int:=
 lt (Cs_ s.x.book m.Bl_ m.key m.head) λr=>
 (bif !decide (r.2.2=0) then
 (s,[],0,r.2.2)
 else Ao_ s m tick r r.1 [] 0 s)
def Up_(W:Nat)(r:D_×List H2_×Int×Int):Prop:=StOk r.1/\(∀ g∈r.2.1,MlOk g.Ad_)/\(r.2.2.2=0->wtk r.1.x.E_+wto r.2.1<=W)
theorem Vh_{W:Nat}{s:D_}{e:Int}(h:StOk s)(he:e≠0):Up_ W (s,[],0,e):=⟨h,(λ_ hg=>by cases hg),λq=>(he q).elim⟩
theorem send1{s:D_}{m:Mail}{tick:Int}{r:List Bs×List Bs×Int}{gone:List H2_}{W:Nat}(hs:StOk s)(hg:∀ g∈gone,MlOk g.Ad_):∀ (t:List Bs) (n:Int) (x:D_),StOk x->wtk x.x.E_+wto gone<=W->Up_ W (Bg_ s m tick r gone t n x)
 |[],n,x,hx,hw=>⟨hx,hg,λ_=>hw⟩
 |q::t,n,x,hx,hw=>by
   unfold Bg_ lt
   refine lp1E (P:=Up_ W) (λy:D_=>StOk y/\y.x.E_=x.x.E_) ?_ λy hy=>?_
   . refine bt (P:=LoP _ _) (λ_=>?_) λ_=>⟨hx,rfl⟩
     refine bt (P:=LoP _ _) (λe=>Vh_ hs ?_) λ_=>spend_ok hx
     simpa using e
   . have hr:=kraise_ok (p:=Dz_ x.U_ q) (m:=⟨0,m.Bl_,m.key,m.head,m.body,m.due,m.hops⟩) hy.1.stk
     refine bt (P:=Up_ W) (λe=>Vh_ hs qY) λ_=>?_
     refine send1 hs hg t _ _ (Ca_ hy.1 hr.1) ?_
     have :wtk (Cf_ y.x.E_ (Dz_ x.U_ q) ⟨0,m.Bl_,m.key,m.head,m.body,m.due,m.hops⟩).1=wtk x.x.E_:=by
       unfold wtk;rw[hr.2,hy.2]
     grind
theorem wto_app(a b:List H2_):wto (a++b)=wto a+wto b:=by simp[wto]
theorem send0{s:D_}{m:Mail}{tick:Int}{r:List Bs×List Bs×Int}(hs:StOk s)(h0:0<=m.hops):∀ (t:List Bs) (gone:List H2_) (n:Int) (x:D_),StOk x->(∀ g∈gone,MlOk g.Ad_)->Up_ (wtk x.x.E_+wto gone+t.length*wtm m) (Ao_ s m tick r t gone n x)
 |[],gone,n,x,hx,hg=>by
   unfold Ao_
   exact send1 hs hg r.2.1 n x hx qB
 |q::t,gone,n,x,hx,hg=>by
   unfold Ao_ lt
   have hmono:∀ {W W':Nat} {r:D_×List H2_×Int×Int},W<=W'->Up_ W r->Up_ W' r:=λhw h=>⟨h.1,h.2.1,λe=>AM (h.2.2 e) hw⟩
   have hl:(q::t).length*wtm m=t.length*wtm m+wtm m:=by rw[A3,Nat.succ_mul]
   refine bt (P:=Up_ _) (λ_=>hmono rV (send0 hs h0 t gone n x hx hg)) λ_=>?_
   generalize hd:Lv_ m.due tick (Ax_ x.x.E_ q).1.life=due
   have hp:=kput_ok (s:=x.x.E_) (n:=q) (m:=⟨0,m.Bl_,m.key,m.head,m.body,due,m.hops⟩) hx.stk h0
   dsimp only
   generalize hv:A8_ x.x.E_ q ⟨0,m.Bl_,m.key,m.head,m.body,due,m.hops⟩=v at hp ⊢
   obtain⟨p1,p2,p3⟩:=hp
   have he:wtm ⟨0,m.Bl_,m.key,m.head,m.body,due,m.hops⟩=wtm m:=rfl
   rw[he] at p3
   refine bt (P:=Up_ _) (λe=>Vh_ hs qY) λe=>?_
   have hw:=(p3 qY).2
   refine bt (P:=Up_ _) (λe2=>?_) λe2=>?_
   . refine hmono ?_ (send0 hs h0 t (gone++[⟨q,v.2.2.1⟩]) (n+1) ⟨⟨x.x.book,v.1,x.x.notes,x.x.seen,x.x.spent⟩,x.U_,x.place⟩ (Ca_ hx p1) ?_)
     . rw[wto_app]
       have :wt1 v.2.2.1=wto [(⟨q,v.2.2.1⟩:H2_)]:=by
         have :decide (v.2.2.1.Bl_=[])=false:=by simpa using e2
         simp[wt1,wto,this]
       grind
     grind
   . refine hmono ?_ (send0 hs h0 t gone (n+1) ⟨⟨x.x.book,v.1,x.x.notes,x.x.seen,x.x.spent⟩,x.U_,x.place⟩ (Ca_ hx p1) hg)
     grind
theorem L1_{s:D_}{m:Mail}{tick:Int}(hs:StOk s)(h0:0<=m.hops):Up_ (wtk s.x.E_+32*wtm m) (Ah_ s m tick):=by
 unfold Ah_ lt;refine bt (P:=Up_ _) (λe=>Vh_ hs qY) λ_=>?_;have hl:=(Wu_ m.Bl_ m.key m.head hs.1.1).1;have h:=send0 (tick:=tick) (r:=Cs_ s.x.book m.Bl_ m.key m.head) hs h0 (Cs_ s.x.book m.Bl_ m.key m.head).1 [] 0 s hs (λ_ hg=>by cases hg)
 refine⟨h.1,h.2.1,λe=>AM (h.2.2 e) ?_⟩;have :=Nat.mul_le_mul_right (wtm m) hl;simp only[wto,ES,List.sum_nil];omega
theorem send1_len{s:D_}{m:Mail}{tick:Int}{r:List Bs×List Bs×Int}{gone:List H2_}{k:Nat}(hk:gone.length<=k):∀ (t:List Bs) (n:Int) (x:D_),(Bg_ s m tick r gone t n x).2.1.length<=k
 |[],n,x=>hk
 |q::t,n,x=>by
   unfold Bg_ lt
   let Q:D_×List H2_×Int×Int->Prop:=λr=>r.2.1.length<=k
   refine lp1E (P:=Q) (λ_=>True) ?_ λy _=>?_
   . refine bt (P:=LoP _ _) (λ_=>?_) λ_=>trivial
     exact bt (P:=LoP _ _) (λ_=>AQ _) λ_=>trivial
   . exact bt (P:=Q) (λ_=>AQ _) λ_=>send1_len hk t _ _
theorem Tf_{s:D_}{m:Mail}{tick:Int}{r:List Bs×List Bs×Int}{k:Nat}:∀ (t:List Bs) (gone:List H2_) (n:Int) (x:D_),gone.length+t.length<=k->(Ao_ s m tick r t gone n x).2.1.length<=k
 |[],gone,n,x,hk=>by
   unfold Ao_
   exact send1_len (by simpa using hk) _ _ _
 |q::t,gone,n,x,hk=>by
   simp only[A3] at hk
   unfold Ao_ lt
   let Q:D_×List H2_×Int×Int->Prop:=λr=>r.2.1.length<=k
   refine bt (P:=Q) (λ_=>Tf_ t _ _ _ rV) λ_=>?_
   refine bt (P:=Q) (λ_=>AQ _) λ_=>?_
   exact bt (P:=Q) (λ_=>Tf_ t _ _ _ qK) λ_=>Tf_ t _ _ _ rV
theorem Mb_{s:D_}{m:Mail}{tick:Int}(hs:StOk s):(Ah_ s m tick).2.1.length<=32:=by
 unfold Ah_ lt;let Q:D_×List H2_×Int×Int->Prop:=λr=>r.2.1.length<=32;refine bt (P:=Q) (λ_=>AQ _) λ_=>?_;have hl:=(Wu_ m.Bl_ m.key m.head hs.1.1).1;exact Tf_ _ _ _ _ qN
theorem wtm_r(m:Mail):1<=wtm m/\wtm m<=39135393:=by
 unfold wtm;refine⟨Nat.one_le_pow _ _ rX,?_⟩;have :33 ^ (5-m.hops.toNat)<=33 ^ 5:=C5 rX rV;exact sT
theorem wto_r:∀ l:List H2_,l.length<=wto l/\wto l<=39135393*l.length
 |[]=>⟨Nat.zero_le _,by simp[wto]⟩
 |x::l=>by
   have h:=wto_r l
   have hx:=wtm_r x.Ad_
   simp only[wto,BH,CZ,A3] at h ⊢
   omega
theorem wtl_r:∀ l:List V_,wtl l<=39135393*l.length
 |[]=>by simp[wtl]
 |x::l=>by
   have h:=wtl_r l
   have hx:=wtm_r x.Ad_
   simp only[wtl,BH,CZ,A3] at h ⊢
   omega
theorem wtr_r:∀ l:List Hh_,(∀ r∈l,LnOk r.l)->(l.map λr=>wtl r.l.items).sum<=2504665152*l.length
 |[],_=>by simp
 |x::l,h=>by
   have h1:=wtr_r l λr hr=>h r (AC _ hr)
   have h2:=wtl_r x.l.items
   exact xR
theorem wtk_r{s:I_}(h:StkOk s):wtk s<=20037321216:=by
 have h1:=wtr_r s.rows h.1.2.1;have h2:=h.1.1;unfold wtk;omega
theorem Vj_{l:List H2_}(h:0<l.length):wto (l.drop 1)+wtm (gt l 0).Ad_=wto l:=by
 cases l with
 |nil=>cases h
 |cons a r=>simp[wto,gt];omega
def Uo_(gone:List H2_)(lost:Int)(x:D_):Prop:=StOk x/\(∀ g∈gone,MlOk g.Ad_)/\0<=lost/\lost+((wtk x.x.E_+wto gone:Nat):Int)<=50000000000
theorem buryI0{gone:List H2_}{x:D_}(h:StOk x)(hg:gone.length<=600/\∀ g∈gone,MlOk g.Ad_):Uo_ gone 0 x:=by
 have h1:=wtk_r h.stk;have h2:=(wto_r gone).2;refine⟨h,hg.2,BP _,?_⟩;grind
section
variable{gone more:List H2_}{lost:Int}{x y:D_}{f:Nat}{m:Mail}{e:Int}
theorem Vl_(hn:0<gone.length)(h:wtk x.x.E_+wto gone<f+1):wtk x.x.E_+wto (gone.drop 1)<f:=by
 have :=Vj_ hn;have :=(wtm_r (gt gone 0).Ad_).1;omega
theorem Tk_(h:Uo_ gone lost x)(hn:0<gone.length):Uo_ (gone.drop 1) lost x:=by
 have h1:=Vj_ hn;exact⟨h.1,λg hg=>h.2.1 g (AS hg),h.2.2.1,by have :=h.2.2.2;omega⟩
theorem Yk_(hs:y.x.E_=x.x.E_)(hn:0<gone.length)(h:wtk x.x.E_+wto gone<f+1):wtk y.x.E_+wto (gone.drop 1)<f:=by
 rw[hs];exact Vl_ hn h
theorem Tl_(h:Uo_ gone lost x)(hy:StOk y)(hs:y.x.E_=x.x.E_)(hn:0<gone.length):Uo_ (gone.drop 1) (lost+1) y:=by
 have h1:=Vj_ hn;have h2:=(wtm_r (gt gone 0).Ad_).1;have h3:=h.2.2.2;exact⟨hy,λg hg=>h.2.1 g (AS hg),by have :=h.2.2.1;omega,by rw[hs];omega⟩
theorem bury_w{r:Mail}(hr:r=M_ (gt gone 0).Ad_)(hm:MlOk (gt gone 0).Ad_)(h4:¬4<IntKind.wrap .u8 (r.hops+1))(hmm:m.hops=IntKind.wrap .u8 (r.hops+1)):33*wtm m=wtm (gt gone 0).Ad_:=by
 subst hr;have h1:=hm.2.1;have h2:=hm.2.2.1;have hw:A0 .u8 ((gt gone 0).Ad_.hops+1)=(gt gone 0).Ad_.hops+1:=by
   exact tZ
 simp only[M_] at h4 hmm;rw[hw] at h4 hmm;unfold wtm;rw[hmm];have :5-(gt gone 0).Ad_.hops.toNat=(5-((gt gone 0).Ad_.hops+1).toNat)+1:=by omega
 grind
theorem Vm_{r:Mail}(hn:0<gone.length)(h:wtk x.x.E_+wto gone<f+1)(hr:r=M_ (gt gone 0).Ad_)(hm:MlOk (gt gone 0).Ad_)(h4:¬4<IntKind.wrap .u8 (r.hops+1))(hw:e=0->wtk y.x.E_+wto more<=wtk x.x.E_+32*wtm m)(hmm:m.hops=IntKind.wrap .u8 (r.hops+1))(he:e=0):wtk y.x.E_+wto ((gone++more).drop 1)<f:=by
 have h1:=Vj_ hn;have h2:=bury_w (m:=m) hr hm h4 hmm;have h3:=hw he;have h5:(gone++more).drop 1=gone.drop 1++more:=by cases gone with
   |nil=>cases hn
   |cons a r=>simp
 have h6:=(wtm_r m).1;rw[h5,wto_app];omega
theorem Tm_{r:Mail}(h:Uo_ gone lost x)(hy:StOk y)(hg:∀ g∈more,MlOk g.Ad_)(hn:0<gone.length)(hr:r=M_ (gt gone 0).Ad_)(hm:MlOk (gt gone 0).Ad_)(h4:¬4<IntKind.wrap .u8 (r.hops+1))(hw:e=0->wtk y.x.E_+wto more<=wtk x.x.E_+32*wtm m)(hmm:m.hops=IntKind.wrap .u8 (r.hops+1))(he:e=0):Uo_ ((gone++more).drop 1) lost y:=by
 have h1:=Vm_ (f:=wtk x.x.E_+wto gone) hn rV hr hm h4 hw hmm he;refine⟨hy,λg hg'=>?_,h.2.2.1,by have :=h.2.2.2;omega⟩
 rcases List.mem_append.1 (AS hg') with q|q
 exact h.2.1 g q;exact hg g q
theorem app_fit(h:Uo_ gone lost x)(hw:e=0->wtk y.x.E_+wto more<=wtk x.x.E_+32*wtm m)(he:e=0):gone.length+more.length<=200000000000:=by
 have h1:=(wto_r gone).1;have h2:=(wto_r more).1;have h3:=(wtm_r m).2;have h4:=hw he;have h5:=h.2.2.2;have h6:=h.2.2.1;omega
end
def nik(s:I_):Nat:=(s.rows.map λr=>r.l.items.length).sum
theorem at_self{s:I_}(h:StkOk s){k:Nat}(hk:k<s.rows.length):An_ s (gt s.rows k).q.name=k:=by
 have h0:0<=An_ s (gt s.rows k).q.name:=Int.not_lt.1 λq=>at_neg q _ (Mp_ hk) Z;have hb:=at_b s (gt s.rows k).q.name;have ha:=at_n h0;obtain⟨j,hj⟩:∃ j:Nat,An_ s (gt s.rows k).q.name=j:=⟨_,(C6 h0).symm⟩;rw[hj] at ha hb ⊢;simp only[AV] at ha;have hjl:j<s.rows.length:=by omega
 have hnd:∀ i q:Nat,(hi:i<s.rows.length)->(hq:q<s.rows.length)->i<q->(gt s.rows i).q.name≠(gt s.rows q).q.name:=λi q hi hq hiq=>by
   have h1:=List.pairwise_iff_getElem.1 h.1.2.2 i q (by simpa using hi) pP hiq
   rw[CK,CK] at h1
   have e1:gt s.rows i=s.rows[i]:=by simp[gt,hi]
   have e2:gt s.rows q=s.rows[q]:=by simp[gt,hq]
   grind
 grind
theorem klate_at0{t:Int}:∀ (l:List Hh_),(B5_ t l).2.2=true->∃ k j,k<l.length/\j<(gt l k).l.items.length/\(B5_ t l).1=(gt l k).q.name/\(B5_ t l).2.1=(gt (gt l k).l.items j).Ad_
 |[],h=>by cases h
 |x::l,h=>by
   unfold B5_ lt at h ⊢
   dsimp only at h ⊢
   cases e:(Hb_ x.l t).2 with
   |true=>
     have hb:=llate_b x.l t
     have hl:∃ j:Nat,j<x.l.items.length/\(Hb_ x.l t).1=(gt x.l.items j).Ad_:=by
       unfold Hb_ lt Ey_ lt at e ⊢
       dsimp only at e ⊢
       cases e1:decide (Gh_ x.l t<0) with
       |true=>rw[e1] at e;cases e
       |false=>
         simp only[decide_eq_false_iff_not] at e1
         exact⟨(Gh_ x.l t).toNat,by omega,rfl⟩
     obtain⟨j,hj,he⟩:=hl
     exact⟨0,j,by simp,hj,rfl,he⟩
   |false=>
     rw[e] at h
     obtain⟨k,j,h1,h2,h3,h4⟩:=klate_at0 l h
     have hg:gt (x::l) (k+1)=gt l k:=by simp[gt]
     grind
theorem late_n{s:I_}{t:Int}(h:StkOk s)(hl:(Ar_ s t).2.2=true):nik (At_ s (Ar_ s t).1 (Ar_ s t).2.1.id).1+1=nik s:=by
 obtain⟨k,j,h1,h2,h3,h4⟩:=klate_at0 s.rows hl;have h3':(Ar_ s t).1=_:=h3;have h4':(Ar_ s t).2.1=_:=h4;rw[h3',h4'];unfold At_ lt;rw[at_self h h1];have hk:decide ((k:Int)<0)=false:=by simp
 have hln:=RwsOk.at h.1 (getG h1);have hrm:(A9_ (gt s.rows k).l (gt (gt s.rows k).l.items j).Ad_.id).1.items.length+1=(gt s.rows k).l.items.length:=by
   unfold A9_ lt
   rw[lof_self hln h2]
   grind
 have hs:=sum_set (λr:Hh_=>r.l.items.length) s.rows k ⟨(gt s.rows k).q,(A9_ (gt s.rows k).l (gt (gt s.rows k).l.items j).Ad_.id).1⟩ h1;dsimp only at hs ⊢;rw[hk];unfold nik;simp only[cond_false,AV,A5_];omega
theorem nik_r0:∀ l:List Hh_,(∀ r∈l,LnOk r.l)->(l.map λr=>r.l.items.length).sum<=64*l.length
 |[],_=>by simp
 |x::l,h=>by
   have h1:=nik_r0 l λr hr=>h r (AC _ hr)
   exact xR
theorem nik_r{s:I_}(h:StkOk s):nik s<=512:=by
 have h1:=nik_r0 s.rows h.1.2.1;have h2:=h.1.1;unfold nik;omega
theorem D4_{s:D_}{a:A16_u64}(h:StOk s):StOk ⟨⟨s.x.book,s.x.E_,s.x.notes,a,s.x.spent⟩,s.U_,s.place⟩:=h
theorem copy_f(m:Mail):(M_ m).head.length=m.head.length/\(M_ m).key.length=m.key.length/\(M_ m).hops=m.hops:=⟨rfl,rfl,rfl⟩
theorem st_nts{s:D_}(h:StOk s):s.x.notes.kept.length<=1000:=AM h.1.2.2.1 rX
theorem late_mu{k:I_}{t:Int}{r:Bs×Mail×Bool}{r1:I_×V_×Int}{f:Nat}(h:StkOk k)(hr:Ar_ k t=r)(h2:r.2.2=true)(hr1:At_ k r.1 r.2.1.id=r1)(hf:nik k<f+1):nik r1.1<f:=by
 subst hr;subst hr1;have :=late_n h h2;omega
theorem late_in{k:I_}{t:Int}{r:Bs×Mail×Bool}{r1:I_×V_×Int}{gone:List H2_}{g:H2_}(h:StkOk k)(hr:Ar_ k t=r)(h2:r.2.2=true)(hr1:At_ k r.1 r.2.1.id=r1)(hf:gone.length+nik k<=512):(gone++[g]).length+nik r1.1<=512:=by
 subst hr;subst hr1;have :=late_n h h2;grind
def Ck_(tick:Int):Nat->List H2_->Int->D_->D_×Int
 |0,_,_,_=>default
 | f2+1,gone1,lost,x=>(bif decide (0<(gone1.length:Int)) then
 lt (Ax_ x.x.E_ ((gt gone1 0).queue)) λr=>
 (bif decide (((r.1).dead)=[]) then
 Ck_ tick f2 (gone1.drop 1) lost x
 else lt (M_ ((gt gone1 0).Ad_)) λr1=>
 lt (Ah_ x (⟨r1.id,(r.1).dead,r1.key,r1.head,r1.body,0,(A0 .u8 (r1.hops+1))⟩:Mail) tick) λr2=>
 (bif ((decide (4<(A0 .u8 (r1.hops+1))))||(!decide (r2.2.2.2=0))) then
 lt (Cu_ x tick 1 ((gt gone1 0).queue)) λr3=>
 Ck_ tick f2 (gone1.drop 1) (lost+1) r3
 else Ck_ tick f2 ((gone1++r2.2.1).drop 1) lost r2.1))
 else (x,lost))
def Cj_(s:D_)(gone:List H2_)(tick:Int):D_×Int:=
 Ck_ tick (wtk s.x.E_+wto gone+1) gone 0 s
def Cv_(s:D_)(d:G_):D_×Af_×Int:=
 lt (Dp_ s.x.E_ d.name d.id) λr=>
 (bif !decide (r.2=0) then
 (s,(⟨(⟨(⟨0,[],[],[],[],0,0⟩:Mail),false,false⟩:V_),0,0⟩:Af_),r.2)
 else (bif decide (d.how=2) then
 ((⟨(⟨s.x.book,r.1,s.x.notes,s.x.seen,s.x.spent⟩:Ac_),s.U_,s.place⟩:D_),(⟨(⟨(⟨0,[],[],[],[],0,0⟩:Mail),false,false⟩:V_),0,0⟩:Af_),0)
 else lt (At_ s.x.E_ d.name d.id) λr1=>
 (bif decide (d.how=1) then
 (((Cj_ (⟨(⟨s.x.book,r1.1,s.x.notes,s.x.seen,s.x.spent⟩:Ac_),s.U_,s.place⟩:D_) [(⟨d.name,r1.2.1.Ad_⟩:H2_)] d.tick).1),(⟨(⟨(⟨0,[],[],[],[],0,0⟩:Mail),false,false⟩:V_),0,(Cj_ (⟨(⟨s.x.book,r1.1,s.x.notes,s.x.seen,s.x.spent⟩:Ac_),s.U_,s.place⟩:D_) [(⟨d.name,r1.2.1.Ad_⟩:H2_)] d.tick).2⟩:Af_),0)
 else ((⟨(⟨s.x.book,r1.1,s.x.notes,s.x.seen,s.x.spent⟩:Ac_),s.U_,s.place⟩:D_),(⟨(⟨(⟨0,[],[],[],[],0,0⟩:Mail),false,false⟩:V_),0,0⟩:Af_),0))))
def Di_(tick:Int):Nat->List H2_->D_->D_×Af_
 |0,_,_=>default
 |f2+1,gone,x=>lt (Ar_ x.x.E_ tick) λr=>
 (bif !r.2.2 then
 (((Cj_ x gone tick).1),(⟨(⟨(⟨0,[],[],[],[],0,0⟩:Mail),false,false⟩:V_),(gone.length:Int),(Cj_ x gone tick).2⟩:Af_))
 else lt (At_ x.x.E_ r.1 r.2.1.id) λr1=>
 Di_ tick f2 (gone++[(⟨r.1,r.2.1⟩:H2_)]) (⟨(⟨x.x.book,r1.1,x.x.notes,x.x.seen,x.x.spent⟩:Ac_),x.U_,x.place⟩:D_))
def F0_(s:D_)(tick:Int):D_×Af_:=
 Di_ tick (nik s.x.E_+1) [] s
def C7_(s:D_)(d:G_):D_×Af_×Int:=
 (bif decide ((s.U_.places.length:Int)<=d.frm) then
 (s,(⟨(⟨(⟨0,[],[],[],[],0,0⟩:Mail),false,false⟩:V_),0,0⟩:Af_),10)
 else (bif ((!(F8_ s.U_ d.frm s.place))&&(decide ((Bf_ s.U_ d.frm s.place)<0))) then
 (s,(⟨(⟨(⟨0,[],[],[],[],0,0⟩:Mail),false,false⟩:V_),0,0⟩:Af_),11)
 else (bif decide (d.number<=(A16.get s.x.seen ((d.frm).toNat))) then
 (s,(⟨(⟨(⟨0,[],[],[],[],0,0⟩:Mail),false,false⟩:V_),0,0⟩:Af_),13)
 else (lt1 ((bif !(F8_ s.U_ d.frm s.place) then
 lt (Cu_ (⟨(⟨s.x.book,s.x.E_,s.x.notes,(A16.set s.x.seen d.number ((d.frm).toNat)),s.x.spent⟩:Ac_),s.U_,s.place⟩:D_) d.tick 2 ((gt s.U_.places ((d.frm).toNat)).name)) λr=>
 r
 else (⟨(⟨s.x.book,s.x.E_,s.x.notes,(A16.set s.x.seen d.number ((d.frm).toNat)),s.x.spent⟩:Ac_),s.U_,s.place⟩:D_))) (λx=>
 lt (M_ d.Ad_) λr1=>
 lt (Ah_ x (⟨r1.id,r1.Bl_,r1.key,r1.head,r1.body,r1.due,(A0 .u8 (r1.hops+1))⟩:Mail) d.tick) λr2=>
 (bif ((decide (4<(A0 .u8 (r1.hops+1))))||(!decide (r2.2.2.2=0))) then
 lt (Cu_ x d.tick 1 r1.Bl_) λr3=>
 (r3,(⟨(⟨(⟨0,[],[],[],[],0,0⟩:Mail),false,false⟩:V_),0,1⟩:Af_),0)
 else (((Cj_ r2.1 r2.2.1 d.tick).1),(⟨(⟨(⟨0,[],[],[],[],0,0⟩:Mail),false,false⟩:V_),r2.2.2.1,(Cj_ r2.1 r2.2.1 d.tick).2⟩:Af_),0)))))))
def D8_(s:D_)(d:G_):D_×Af_×Int:=
 lt (M_ d.Ad_) λr=>
 lt (Ah_ s r d.tick) λr1=>
 (bif !decide (r1.2.2.2=0) then
 (s,(⟨(⟨(⟨0,[],[],[],[],0,0⟩:Mail),false,false⟩:V_),0,0⟩:Af_),r1.2.2.2)
 else (((Cj_ (r1.1) r1.2.1 d.tick).1),(⟨(⟨(⟨0,[],[],[],[],0,0⟩:Mail),false,false⟩:V_),r1.2.2.1,(Cj_ (r1.1) r1.2.1 d.tick).2⟩:Af_),0))
def K_(s:D_)(d:G_):D_×Af_×Int:=
 (bif !decide ((G2_ d)=0) then
 (s,(⟨(⟨(⟨0,[],[],[],[],0,0⟩:Mail),false,false⟩:V_),0,0⟩:Af_),G2_ d)
 else (lt3 ((lt1 ((bif decide (d.kind=2) then
 (decide (d.kind=2))
 else (decide (d.kind=3)))) (λv=>
 (bif v then
 lt (B2_ s d) λr=>
 (r.2,r.1,(⟨(⟨(⟨0,[],[],[],[],0,0⟩:Mail),false,false⟩:V_),0,0⟩:Af_))
 else (bif decide (d.kind=6) then
 lt (D8_ s d) λr1=>
 (r1.2.2,r1.1,r1.2.1)
 else (bif decide (d.kind=7) then
 lt (C6_ s d) λr2=>
 (r2.2.2,r2.1,r2.2.1)
 else (bif decide (d.kind=8) then
 lt (Cv_ s d) λr3=>
 (r3.2.2,r3.1,r3.2.1)
 else (bif decide (d.kind=9) then
 lt (F0_ s d.tick) λr4=>
 (0,r4.1,r4.2)
 else (bif decide (d.kind=10) then
 lt (C7_ s d) λr5=>
 (r5.2.2,r5.1,r5.2.1)
 else (bif decide (d.kind=11) then
 lt (Ff_ s.x.E_) λr6=>
 lt (Cu_ (⟨(⟨s.x.book,r6,s.x.notes,s.x.seen,s.x.spent⟩:Ac_),s.U_,s.place⟩:D_) d.tick 3 []) λr7=>
 (0,r7,(⟨(⟨(⟨0,[],[],[],[],0,0⟩:Mail),false,false⟩:V_),0,0⟩:Af_))
 else (bif decide (d.kind=12) then
 lt (D7_ s.x.notes (⟨d.tick,d.code,d.text⟩:Ea_)) λr8=>
 (r8.2,(⟨(⟨s.x.book,s.x.E_,r8.1,s.x.seen,s.x.spent⟩:Ac_),s.U_,s.place⟩:D_),(⟨(⟨(⟨0,[],[],[],[],0,0⟩:Mail),false,false⟩:V_),0,0⟩:Af_))
 else lt (Cg_ s d) λr9=>
 (r9.2,r9.1,(⟨(⟨(⟨0,[],[],[],[],0,0⟩:Mail),false,false⟩:V_),0,0⟩:Af_))))))))))))) (λe_1 x x1=>
 (bif !decide (e_1=0) then
 (s,(⟨(⟨(⟨0,[],[],[],[],0,0⟩:Mail),false,false⟩:V_),0,0⟩:Af_),e_1)
 else (x,x1,0)))))
theorem U0_(tick:Int):∀ (f:Nat) (gone:List H2_) (lost:Int) (x:D_),Uo_ gone lost x->wtk x.x.E_+wto gone<f->StOk (Ck_ tick f gone lost x).1
 |0,_,_,_,_,h=>by omega
 |f+1,gone,lost,x,hI,hf=>by
   unfold Ck_ lt
   let Q:D_×Int->Prop:=λr=>StOk r.1
   refine bt (P:=Q) (λe=>?_) λ_=>hI.1
   have hn:0<gone.length:=by simpa using e
   refine bt (P:=Q) (λ_=>U0_ tick f _ _ _ (Tk_ hI hn) (Vl_ hn hf)) λ_=>?_
   have hm:MlOk (gt gone 0).Ad_:=hI.2.1 _ (Mp_ hn)
   refine bt (P:=Q) (λ_=>?_) λe4=>?_
   . have h:=Lb_ (s:=x) (t:=tick) (k:=1) (x:=(gt gone 0).queue) hI.1
     exact U0_ tick f _ _ _ (Tl_ hI h.1 h.2 hn) (Yk_ h.2 hn hf)
   . simp only[AG,decide_eq_false_iff_not,AX,decide_eq_true_eq] at e4
     have hs:=L1_ (s:=x) (m:=⟨(M_ (gt gone 0).Ad_).id,(Ax_ x.x.E_ (gt gone 0).queue).1.dead,(M_ (gt gone 0).Ad_).key,(M_ (gt gone 0).Ad_).head,(M_ (gt gone 0).Ad_).body,0,A0 .u8 ((M_ (gt gone 0).Ad_).hops+1)⟩) (tick:=tick) hI.1 (Lg_ _)
     exact U0_ tick f _ _ _ (Tm_ hI hs.1 hs.2.1 hn Z hm e4.1 hs.2.2 Z e4.2) (Vm_ hn hf Z hm e4.1 hs.2.2 Z e4.2)
theorem Zk_{s:D_}{gone:List H2_}{tick:Int}(h:StOk s)(hg:gone.length<=600/\∀ g∈gone,MlOk g.Ad_):StOk (Cj_ s gone tick).1:=
 U0_ tick _ gone 0 s (buryI0 h hg) (BN _)
theorem settle_ok{s:D_}{d:G_}(h:StOk s):StOk (Cv_ s d).1:=by
 unfold Cv_ lt;let Q:D_×Af_×Int->Prop:=λr=>StOk r.1;refine bt (P:=Q) (λ_=>h) λ_=>?_;refine bt (P:=Q) (λ_=>Ca_ h (kback_ok h.stk)) λ_=>?_;have hr:=Kf_ (n:=d.name) (id:=d.id) h.stk;refine bt (P:=Q) (λ_=>Zk_ (Ca_ h hr.1) ⟨by simp,λg hg=>?_⟩) λ_=>Ca_ h hr.1;exact tF
theorem late_ok0(t:Int):∀ (f:Nat) (gone:List H2_) (x:D_),StOk x->(∀ g∈gone,MlOk g.Ad_)->gone.length+nik x.x.E_<=512->nik x.x.E_<f->StOk (Di_ t f gone x).1
 |0,_,_,_,_,_,h=>by omega
 |f+1,gone,x,h,hg,hl,hf=>by
   unfold Di_ lt
   let Q:D_×Af_->Prop:=λr=>StOk r.1
   refine bt (P:=Q) (λ_=>Zk_ h ⟨by omega,hg⟩) λe=>?_
   have e':(Ar_ x.x.E_ t).2.2=true:=by simpa using e
   have hr:=Kf_ (n:=(Ar_ x.x.E_ t).1) (id:=(Ar_ x.x.E_ t).2.1.id) h.stk
   refine late_ok0 t f _ _ (Ca_ h hr.1) (λg q=>?_) (late_in h.stk Z e' Z hl) (late_mu h.stk Z e' Z hf)
   rcases List.mem_append.1 q with q|q
   . exact hg g q
   . exact tG
theorem late_ok{s:D_}{t:Int}(h:StOk s):StOk (F0_ s t).1:=
 late_ok0 t _ [] s h (λ_ h=>by cases h) oD (BN _)
theorem put_ok{s:D_}{d:G_}(h:StOk s)(hd:DdOk d)(h0:0<=d.Ad_.hops):StOk (D8_ s d).1:=by
 unfold D8_ lt;let Q:D_×Af_×Int->Prop:=λr=>StOk r.1;have hs:=L1_ (s:=s) (m:=M_ d.Ad_) (tick:=d.tick) h h0;have hl:=Mb_ (s:=s) (m:=M_ d.Ad_) (tick:=d.tick) h;exact bt (P:=Q) (λ_=>h) λ_=>Zk_ hs.1 ⟨by omega,hs.2.1⟩
theorem pull_ok{s:D_}{d:G_}(h:StOk s)(hd:DdOk d):StOk (C7_ s d).1:=by
 unfold C7_ lt;let Q:D_×Af_×Int->Prop:=λr=>StOk r.1;refine bt (P:=Q) (λ_=>h) λ_=>?_;refine bt (P:=Q) (λ_=>h) λ_=>?_;refine bt (P:=Q) (λ_=>h) λ_=>?_;refine lt1E (P:=Q) StOk ?_ λx hx=>?_;exact bt (P:=StOk) (λ_=>(Lb_ (D4_ h)).1) λ_=>D4_ h;refine bt (P:=Q) (λ_=>(Lb_ hx).1) λ_=>?_;have hs:=L1_ (s:=x) (m:=⟨(M_ d.Ad_).id,(M_ d.Ad_).Bl_,(M_ d.Ad_).key,(M_ d.Ad_).head,(M_ d.Ad_).body,(M_ d.Ad_).due,A0 .u8 ((M_ d.Ad_).hops+1)⟩) (tick:=d.tick) hx (Lg_ _);have hl:=Mb_ (s:=x) (m:=⟨(M_ d.Ad_).id,(M_ d.Ad_).Bl_,(M_ d.Ad_).key,(M_ d.Ad_).head,(M_ d.Ad_).body,(M_ d.Ad_).due,A0 .u8 ((M_ d.Ad_).hops+1)⟩) (tick:=d.tick) hx;exact Zk_ hs.1 ⟨by omega,hs.2.1⟩
theorem lt3E{σ τ ρ β:Type}{P:β->Prop}{o:σ×τ×ρ}{f:σ->τ->ρ->β}(I:σ×τ×ρ->Prop)(ho:I o)(hf:∀ a b c,I (a,b,c)->P (f a b c)):P (lt3 o f):=hf _ _ _ ho
theorem Uq_{s:D_}{d:G_}(h:StOk s)(hd:DdOk d)(h0:0<=d.Ad_.hops):StOk (K_ s d).1:=by
 unfold K_ lt;let Q:D_×Af_×Int->Prop:=λr=>StOk r.1;refine bt (P:=Q) (λ_=>h) λ_=>?_;let I:Int×D_×Af_->Prop:=λr=>StOk r.2.1;refine lt3E (P:=Q) I ?_ λa b c hb=>bt (P:=Q) (λ_=>h) λ_=>hb;refine lt1E (P:=I) (λ_=>True) U λv _=>?_;refine bt (P:=I) (λ_=>queues_ok h) λ_=>?_;refine bt (P:=I) (λ_=>put_ok h hd h0) λ_=>?_;refine bt (P:=I) (λ_=>(lend_ok h).1) λ_=>?_;refine bt (P:=I) (λ_=>settle_ok h) λ_=>?_;refine bt (P:=I) (λ_=>late_ok h) λ_=>?_;refine bt (P:=I) (λ_=>pull_ok h hd) λ_=>?_;refine bt (P:=I) (λ_=>(Lb_ (Ca_ h (kwake_ok h.stk))).1) λ_=>?_;refine bt (P:=I) (λ_=>⟨⟨h.1.1,h.1.2.1,nadd_len h.1.2.2.1,h.1.2.2.2⟩,h.2⟩) λ_=>?_;exact shops_ok h hd
instance{σ ρ:Type}[Inhabited ρ]:Inhabited (Lo σ ρ):=⟨.ret default⟩
theorem has_fd(a:Cr_)(i:Int)(h:0<=a.set_):0<=a.set_.fdiv (2 ^ min i.toNat IntKind.u32.bits):=
 Int.fdiv_nonneg h (Int.le_of_lt (Int.pow_pos rX))
theorem poOk_l{p:F_}(h:PoOk p):p.places.length<=100000/\p.slots.length<=100000/\p.grants.length<=100000:=by
 obtain⟨_,h2,_,h4,h5,_⟩:=h;omega
def r03_Has(a:Cr_)(i:Int):Bool:=
 (decide (((Int.fdiv a.set_ (2 ^ (min (i:Int).toNat (A9 .u32))))%2)=1))
def Nh_(a:Cr_)(b:Cr_):Nat->Nat->Bool
 |0,_=>default
 | f2+1,i=>(bif decide ((i:Int)<32) then
 (bif ((r03_Has a (i:Int))&&(!(r03_Has b (i:Int)))) then
 false
 else Nh_ a b f2 (i+1))
 else true)
def S8_(a:Cr_)(b:Cr_):Bool:=
 (bif decide (b.level<a.level) then
 false
 else Nh_ a b (32-0+1) 0)
def Hz_(y:Av_):List Av_->Lo Unit Int
 |[]=> .fin ()
 | x::t=>(bif ((decide ((x.name)=(y.name)))||(decide (x.label=y.label))) then
 .ret 9
 else Hz_ y t)
def H0_(y1:Bv_):List Bv_->Lo Unit Int
 |[]=> .fin ()
 | x1::t1=>(bif ((decide ((x1.frm)=(y1.frm)))&&(decide ((x1.to')=(y1.to')))) then
 .ret 9
 else H0_ y1 t1)
def Jc_(i:Nat):List Int->Bool->Lo Unit Int
 | [],has=>(bif !has then
 .ret 15
 else .fin ())
 |x2::t2,has=>Jc_ i t2 (has||(decide (x2=(i:Int))))
def Ni_(p:F_):Nat->Nat->Int
 |0,_=>default
 | f2+1,i=>(bif decide ((i:Int)<(p.places.length:Int)) then
 (lp0 (Jc_ i p.slots false) (
 Ni_ p f2 (i+1)) (λr=>r))
 else 0)
def He_(p:F_):List Bv_->Nat->Int
 |[],k3=>Ni_ p (p.places.length-0+1) 0
 | x3::t3,k3=>(lp0 ((bif ((((decide ((x3.frm)<0))||(decide ((p.places.length:Int)<=(x3.frm))))||(decide ((x3.to')<0)))||(decide ((p.places.length:Int)<=(x3.to')))) then
 .ret 10
 else (bif (S8_ ((gt p.places ((x3.frm).toNat)).label) ((gt p.places ((x3.to').toNat)).label)) then
 .ret 11
 else (bif ((decide ((x3.budget)<0))||(decide (16<(x3.budget)))) then
 .ret 7
 else H0_ x3 (p.grants.take k3))))) (
 He_ p t3 (k3+1)) (λr=>r))
def Gk_(p:F_):List Int->Int
 | []=>(bif decide (8<(p.grants.length:Int)) then
 6
 else He_ p p.grants 0)
 | x4::t4=>(bif ((decide (x4<0))||(decide ((p.places.length:Int)<=x4))) then
 10
 else Gk_ p t4)
def Hd_(p:F_):List Av_->Nat->Int
 | [],k=>(bif decide ((p.slots.length:Int)=0) then
 15
 else (bif decide (32<(p.slots.length:Int)) then
 6
 else Gk_ p p.slots))
 | x5::t5,k=>(lp0 ((bif !decide ((Gp_ (x5.name))=0) then
 .ret (Gp_ (x5.name))
 else (bif ((((decide (15<(x5.label.level)))||(decide ((x5.bytes)<0)))||(decide (65536<(x5.bytes))))||(decide ((x5.base)=0))) then
 .ret 7
 else Hz_ x5 (p.places.take k)))) (
 Hd_ p t5 (k+1)) (λr=>r))
def Pw_(p:F_):Int:=
 (bif ((((decide (p.work<1))||(decide (16<p.work)))||(decide (p.give<1)))||(decide (16<p.give))) then
 7
 else (bif decide ((p.places.length:Int)=0) then
 15
 else (bif decide (16<(p.places.length:Int)) then
 6
 else Hd_ p p.places 0)))
def Uf_(p:F_)(n:Int):Int:=
 (n%(p.places.length:Int))
def Hv_:List Av_->Bool
 |[]=>true
 | x::t=>(bif decide (40<((x.name).length:Int)) then
 false
 else Hv_ t)
def Mj_(p:F_):Bool:=
 (bif (((decide (20<(p.places.length:Int)))||(decide (40<(p.slots.length:Int))))||(decide (10<(p.grants.length:Int)))) then
 false
 else Hv_ p.places)
def Jr_:List Bv_->Int->Int->List Av_->List Int->List Bv_->F_
 |[],work1,give_1,places1,slots1,grants1=>(⟨work1,give_1,places1,slots1,grants1⟩:F_)
 |x::t,work1,give_1,places1,slots1,grants1=>Jr_ t work1 give_1 places1 slots1 (grants1++[x])
def Jq_(p:F_):List Av_->Int->Int->List Av_->List Int->List Bv_->F_
 |[],work,give_,places,slots,grants=>Jr_ p.grants work give_ places (slots++p.slots) grants
 |x1::t1,work,give_,places,slots,grants=>Jq_ p t1 work give_ (places++[x1]) slots grants
def Wd_(p:F_):F_:=
 Jq_ p p.places p.work p.give [] [] []
theorem l05_light{p:F_}(h:Mj_ p=true):p.places.length<=100000/\p.slots.length<=100000/\p.grants.length<=100000:=by
 unfold Mj_ at h
 cases e:(decide (20<(p.places.length:Int)) || decide (40<(p.slots.length:Int)) || decide (10<(p.grants.length:Int))) with
 |true=>rw[e] at h;cases h
 |false=>
   simp only[AG,decide_eq_false_iff_not] at e
   omega
def Np_(p:F_):Bool:=
 ((Mj_ p)&&(decide ((Pw_ (Wd_ p))=0)))
end Go.SW.V
namespace Go.SW
open Go.RowKit
def cuts(p:UInt8):Bs->List Bs
 |[]=>[[]]
 |c::r=>if c=p then []::cuts p r else match cuts p r with
   |[]=>[[c]]
   |w::t=>(c::w)::t
theorem Xu_(p:UInt8):∀ s:Bs,Lib.splitK [p] 0 (Lib.count s [p]) s=cuts p s
 |[]=>by rw[EE (by simp[B7])];rfl
 |b::l=>by
   have ih:=Xu_ p l
   by_cases hb:b=p
   . subst hb
     rw[Lib.count_cons_eq,Nat.add_comm]
     have hix:B7 (b::l) [b]=0:=by rw[B7];simp[DP]
     unfold FQ cuts
     rw[hix]
     simp[ih]
   . rw[Lib.count_cons_ne _ _ _ hb]
     have hp:([p]:List UInt8).isPrefixOf (b::l)=false:=by simp[DP,Ne.symm hb]
     have hix:B7 (b::l) [p] = if B7 l [p] == -1 then -1 else B7 l [p]+1:=by rw[B7,hp];simp
     unfold cuts
     rw[if_neg hb,<- ih]
     cases hc:Lib.count l [p] with
     |zero=>rfl
     |succ k=>
       unfold FQ
       rw[hix]
       by_cases hm:B7 l [p] = -1
       . rw[EE hm] at hc;cases hc
       . have hge:=Lib.index_ge l [p]
         obtain⟨j,hj⟩:∃ j:Nat,B7 l [p]=j:=⟨(B7 l [p]).toNat,by omega⟩
         exact tK
theorem Xs_(p:UInt8)(s:Bs):(Lib.splitB ⟨#[p]⟩ 0 (Lib.countB ⟨s.toArray⟩ ⟨#[p]⟩) ⟨s.toArray⟩).map Value.string=(cuts p s).map str:=by
 have h:=Lib.splitB_data ⟨#[p]⟩ 0 (D7 ⟨s.toArray⟩ ⟨#[p]⟩) ⟨s.toArray⟩;have hc:D7 ⟨s.toArray⟩ ⟨#[p]⟩=Lib.count s [p]:=by simp[D7]
 rw[hc] at h ⊢;have e:=Xu_ p s;exact tU
theorem splitB_clen(p:UInt8)(s:Bs):Lib.countB ⟨s.toArray⟩ ⟨#[p]⟩+1=(cuts p s).length:=by
 have h:=congrArg List.length (Xs_ p s);rw[C8,C8,Lib.splitB_all ⟨#[p]⟩ (by simp[CF]) 0 _ _ rfl] at h;exact h
theorem Tn_(p:UInt8):∀ (s w:Bs),w∈cuts p s->w.length<=s.length
 |[],w,h=>by simp[cuts] at h;simp[h]
 |c::r,w,h=>by
   unfold cuts at h
   split at h
   . rcases List.mem_cons.1 h with rfl|h
     . simp
     . have :=Tn_ p r w h;simp;omega
   . split at h
     . simp at h;subst h;simp
     . rename_i x t e
       have ih:=Tn_ p r
       rw[e] at ih
       rcases List.mem_cons.1 h with rfl|h
       . have :=ih x qB;simp;omega
       . have :=ih w (by simp[h]);simp;omega
theorem cuts_le(p:UInt8):∀ s:Bs,(cuts p s).length<=s.length+1
 |[]=>by simp[cuts]
 |c::r=>by
   have ih:=cuts_le p r
   unfold cuts
   split
   . simp;omega
   . split
     . simp
     . rename_i e;rw[e] at ih;simp at ih ⊢;omega
theorem Mem.addH{N:Rest}{H:Hp}{L:Ls}{w w':World}(h:Mem N H L w)(hb:Below w.heap.size w w'){g:Nat}{o:Obj}(hg:w.heap.size<=g)(ho:w'.heap[g]? = some o):Mem N (hadd H g o) L w'/\HLe H (hadd H g o):=by
 have hs:∀ (b:Nat) o',w.heap[b]? = some o'->b<w.heap.size:=λb o' x=>by
   by_cases q:b<w.heap.size
   . exact q
   . rw[Array.getElem?_eq_none rV] at x;cases x
 have hk:∀ (b:Nat) o',w.heap[b]? = some o'->w'.heap[b]? = some o':=λb o' x=>by rw[hb.block b (hs b o' x)];exact x
 have hH:H g=none:=by
   cases q:H g with
   |none=>rfl
   |some o1=>have :=hs _ _ (h.h _ _ q);omega
 refine⟨⟨hb.os.trans h.os,hb.tape.trans h.tape,hb.output.trans h.output,λb o' x=>hk _ _ (h.n b o' x),λb o' x=>?_,λi b o' x=>hk _ _ (h.l i b o' x),λb o' x=>?_,λi b o' x=>⟨(h.nl i b o' x).1,?_⟩,h.ll⟩,Z7_ hH⟩;by_cases e:b=g;subst e;simp[hadd] at x;subst x;exact ho;simp[hadd,e] at x;exact hk _ _ (h.h b o' x);have :=hs b o' (h.n b o' x);have e:b≠g:=by omega
 simp[hadd,e];exact h.nh b o' x;have :=hs b o' (h.l i b o' x);have e:b≠g:=by omega
 simp[hadd,e];exact (h.nl i b o' x).2
theorem ph_rowB{P:Program}{f:FuncId}{args:Array Value}{H:Hp}{T:TypeId}{xs:List Bs}{ys:List Value}(hy:ys=xs.map str)(hx:∀ s∈xs,s.length<=9223372036854775807)
   (h:∀ N L w,Mem N H L w->Calls P f args w λe w'=>∃ A,e = .returned (.slice (some ⟨A,0,none⟩) ys.length ys.length)/\w.heap.size<=A/\w'.ownsRow w.heap.size T 1 (.slice (some ⟨A,0,none⟩) ys.length ys.length) ys.length ys/\Below w.heap.size w w') :
   Ph P f args H (λv H'=>∃ (a:Option Addr) (c:Nat),v = .slice a xs.length c/\SlH strE 1 H' (.slice a xs.length c) xs):=by
 subst hy;intro N L w hm;refine (h N L w hm).mono λe w' ⟨A,he,hA,hr,hb⟩=>?_;simp only[C8] at he hr
 rcases hr.2 with ⟨h0,_⟩|⟨g,cap,cur,hv,hg,ho,hn,_,hc,ht⟩
 . cases h0
 . cases hv
   obtain⟨hm',hl⟩:=hm.addH hb hA ho
   have hcur:cur=(xs.map str).toArray:=by
     apply Array.ext'
     rw[<- ht]
     have :cur.toList.length=xs.length*1:=by simpa using hc
     rw[AL rV]
   refine⟨_,_,he,⟨_,_,rfl,⟨_,_,rfl,Nat.le_refl _⟩,λm hmm=>⟨[str xs[m]],⟨rfl,hx _ (List.getElem_mem hmm)⟩,A,0,xs.length,xs.length,cur,T,(0,0),rfl,?_,rfl,λj hj=>?_⟩⟩,hl,hm'⟩
   simp[hadd]
   obtain rfl :j=0:=by simpa using hj
   subst hcur
   simp[hmm]
def flds(s:Bs):List Bs:=(G3 (λx=>decide ((x:Int)=32)) ⟨s.toArray⟩).map λb=>b.data.toList
theorem flds_str(s:Bs):(Lib.goFieldsP (λx=>decide ((x:Int)=32)) ⟨s.toArray⟩).map Value.string=(flds s).map str:=by
 unfold flds;rw[G4]
 congr 1
theorem flds_piece(s w:Bs)(h:w∈flds s):w.length<=s.length:=by
 simp only[flds,G3,G4,List.mem_map,Function.comp] at h;obtain⟨x,_,rfl⟩:=h;simp only[Array.length_toList];show ((⟨s.toArray⟩:ByteArray).extract x.1 x.2).size<=s.length;rw[ByteArray.size_extract];have :(⟨s.toArray⟩:ByteArray).size=s.length:=by simp[CF]
 omega
def plen(s:Bs):Bool:=decide (s.length<=65536)&&(cuts 10 s).all λl=>decide (l.length<=65536) && decide ((flds l).length<=65536)&&(flds l).all λw=>decide (0<w.length) && decide (w.length<=19)
theorem plen_ok{s:Bs}(h:plen s=true):s.length<=65536/\∀ l∈cuts 10 s,l.length<=65536/\(flds l).length<=65536/\∀ w∈flds l,0<w.length/\w.length<=19:=by
 simp only[plen,A4,decide_eq_true_eq,D9] at h;exact⟨h.1,λl hl=>⟨(h.2 l hl).1.1,(h.2 l hl).1.2,(h.2 l hl).2⟩⟩
def dec(s:Bs):Nat:=match DZ 64 s with| .ok n=>n|_=>0
def I5_(s:Bs):Bool:=s.all λc=>decide (48<=c.toNat) && decide (c.toNat<=57)
theorem pu_ok:∀ (s:Bs) (a k:Nat),a<10 ^ k->k+s.length<=19->I5_ s=true->∃ n,Lib.parseUintM 18446744073709551615 a s = .ok n/\n<10 ^ 19
 |[],a,k,ha,hk,_=>⟨a,rfl,Nat.lt_of_lt_of_le ha (C5 rX (by simpa using hk))⟩
 |c::r,a,k,ha,hk,hd=>by
   simp only[I5_,EC,A4,decide_eq_true_eq,A3] at hd hk
   have h18:10 ^ k<=10 ^ 18:=C5 rX rV
   have h19:a*10+(c.toNat-48)<10 ^ (k+1):=by rw[Nat.pow_succ];omega
   have e18:(10:Nat) ^ 18=1000000000000000000:=by decide
   unfold Lib.parseUintM
   rw[if_pos hd.1,if_neg rV,if_neg rV]
   exact pu_ok r _ (k+1) h19 rV hd.2
theorem dec_ok{s:Bs}(hl:s.length<=19)(h0:0<s.length)(hd:I5_ s=true):Lib.parseUintB 64 s = .ok (dec s)/\(dec s:Int)<=18446744073709551615:=by
 obtain⟨n,h,hn⟩:=pu_ok s 0 0 rX qN hd;have h:DZ 64 s = .ok n:=by
   unfold DZ
   rw[if_neg (by intro q;subst q;cases h0)]
   exact h
 have e19:(10:Nat) ^ 19=10000000000000000000:=by decide
 have e:dec s=n:=by unfold dec;rw[h]
 rw[e];exact⟨h,by omega⟩
theorem Mem.below{N:Rest}{H:Hp}{L:Ls}{w w':World}(hm:Mem N H L w)(hb:Below w.heap.size w w'):Mem N H L w':=
 hm.of_same hb.os hb.tape hb.output λc o ho=>by
   exact tJ
theorem dig_step{s:Bs}{k:Nat}(h:I5_ (s.take k)=true)(hk:k<s.length)(hc:(decide (((s.getD k 0).toNat:Int)<48) || decide (57<((s.getD k 0).toNat:Int)))=false):I5_ (s.take (k+1))=true:=by
 have e:s.take (k+1)=s.take k++[s.getD k 0]:=by
   rw[List.take_add_one,A7 hk,BF,A7 hk];rfl
 rw[e];simp only[AG,decide_eq_false_iff_not] at hc;simp only[I5_,List.all_append,A4,EC,List.all_nil,decide_eq_true_eq,Bool.and_true];exact⟨h,by omega,by omega⟩
theorem dig_all{s:Bs}{k:Nat}(h:I5_ (s.take k)=true)(hk:s.length<=k):I5_ s=true:=by
 rwa [AL hk] at h
end Go.SW
namespace Go.SW.V
open Go.SW
theorem riOk_nil:RiOk ⟨0,[]⟩:=⟨Nat.zero_le _,λ_ h=>by cases h⟩
theorem plen05:plen [119,111,114,107,32,52,10,103,105,118,101,32,49,10,108,97,98,101,108,32,108,111,119,32,48,32,53,49,50,32,49,10,115,108,111,116,32,108,111,119]=true:=by decide +kernel
theorem rput_ne{x:Ag_}{m:Mail}(h:x.total=0\/0<x.kept.length):(Dc_ x m).1.total=0\/0<(Dc_ x m).1.kept.length:=by
 unfold Dc_ lt;let Q:Ag_×Int->Prop:=λr=>r.1.total=0\/0<r.1.kept.length;refine bt (P:=Q) (λ_=>h) λ_=>?_;refine bt (P:=Q) (λ_=>h) λ_=> .inr ?_;simp only[AN,AU,AT,B5,A1,A3,A6];omega
theorem knew_ok(b n:Int)(h:n<=1000000):StkOk (Dw_ b n):=by
 refine⟨⟨by simp[Dw_],by simp[Dw_],by simp[Dw_]⟩,λi hi=>?_,?_,?_⟩;have :(Dw_ b n).rises.get i=⟨0,[]⟩:=by
   unfold Dw_ A16.get
   repeat' split
   all_goals rfl
 rw[this];exact riOk_nil;show 0<=max 0 n;omega;show max 0 n<=1000000;omega
def poB(p:F_):Bool:=decide (0<p.places.length) && decide (p.places.length<=16) && decide (0<p.slots.length) && decide (p.slots.length<=32) && decide (p.grants.length<=8)&&(p.grants.all λg=>decide (0<=g.frm) && decide (g.frm<p.places.length) && decide (0<=g.to') && decide (g.to'<p.places.length) && decide (0<=g.budget) && decide (g.budget<=16))&&p.places.all λx=>decide (0<=x.bytes) && decide (x.bytes<=65536)
theorem Uj_{p:F_}(h:poB p=true):PoOk p:=by
 simp only[poB,D9,A4,decide_eq_true_eq] at h;obtain⟨⟨⟨⟨⟨⟨h1,h2⟩,h3⟩,h4⟩,h5⟩,h6⟩,h7⟩:=h;exact⟨h1,h2,h3,h4,h5,λg hg=>by have :=h6 g hg;omega,h7⟩
def ddB(l:List G_):Bool:=l.all λd=>decide (d.bind.key.length<=1000) && decide (d.bind.want.length<=1000) && decide (d.Ad_.head.length<=1000) && decide (d.Ad_.key.length<=1000) && decide (0<=d.Ad_.hops)
theorem ddB_ok{l:List G_}(h:ddB l=true):∀ d∈l,DdOk d/\0<=d.Ad_.hops:=λd hd=>by
 simp only[ddB,D9,A4,decide_eq_true_eq] at h
 have :=h d hd
 exact⟨⟨this.1.1.1.1,this.1.1.1.2,this.1.1.2,this.1.2⟩,this.2⟩
theorem dd1{d:G_}(h:ddB [d]=true):DdOk d:=(ddB_ok h d AJ).1
theorem s23_mem0(l0:List G_):∀ {l:List G_} {d:G_},Fz_ l0 l=true->d∈l->Sq_ d=true
 |[],d,_,hd=>by simp at hd
 |x::l,d,h,hd=>by
   simp only[Fz_] at h
   cases e:Sq_ x with
   |false=>rw[e] at h;cases h
   |true=>
     rw[e] at h
     rcases List.mem_cons.1 hd with rfl|q
     . exact e
     . exact s23_mem0 l0 h q
theorem s23_len0(l0:List G_):∀ {l:List G_},Fz_ l0 l=true->l0.length<=40
 |[],h=>by simp[Fz_] at h;omega
 |x::l,h=>by
   simp only[Fz_] at h
   cases e:Sq_ x with
   |false=>rw[e] at h;cases h
   |true=>rw[e] at h;exact s23_len0 l0 h
def DdA(l:List G_):Prop:=(∀ d∈l,DdOk d)/\l.length<=40
theorem l23_dd{l:List G_}(h:Kq_ l=true):DdA l:=⟨λd hd=>by
 have e:=s23_mem0 _ h hd
 have h1:=lightD_len d e
 simp only[Sq_,A4,decide_eq_true_eq] at e
 have h2:=Wv_ _ h1.2.2.2
 refine⟨by omega,by omega,by omega,by omega⟩,s23_len0 _ h⟩
theorem dd_mem{l:List G_}{k:Nat}{d:G_}(h:DdA l)(hd:l[k]? = some d):DdOk d:=h.1 d (A2 hd)
theorem at_r(p:F_)(n:Int)(h:0<p.places.length):0<=Uf_ p n/\Uf_ p n<p.places.length:=
 ⟨Int.emod_nonneg _ rV,Int.emod_lt_of_pos _ rV⟩
theorem to_eq1:∀ (l:List Bv_) (w g:Int) (p:List Av_) (s:List Int) (o:List Bv_),Jr_ l w g p s o=⟨w,g,p,s,o++l⟩
 |[],w,g,p,s,o=>by simp[Jr_]
 |x::l,w,g,p,s,o=>by simp[Jr_,to_eq1 l]
theorem to_eq0(q:F_):∀ (l:List Av_) (w g:Int) (p:List Av_) (s:List Int) (o:List Bv_),Jq_ q l w g p s o=⟨w,g,p++l,s++q.slots,o++q.grants⟩
 |[],w,g,p,s,o=>by simp[Jq_,to_eq1]
 |x::l,w,g,p,s,o=>by simp[Jq_,to_eq0 q l]
theorem to_eq(p:F_):Wd_ p=p:=by simp[Wd_,to_eq0]
theorem chk1(y:Av_):∀ l:List Av_,LoP (λ_=>True) (λr:Int=>r≠0) (Hz_ y l)
 |[]=>trivial
 |x::l=>by
   unfold Hz_
   exact bt (P:=LoP _ _) (λ_=>by show (9:Int)≠0;decide) λ_=>chk1 y l
theorem chk4(y:Bv_):∀ l:List Bv_,LoP (λ_=>True) (λr:Int=>r≠0) (H0_ y l)
 |[]=>trivial
 |x::l=>by
   unfold H0_
   exact bt (P:=LoP _ _) (λ_=>by show (9:Int)≠0;decide) λ_=>chk4 y l
theorem lp0Z{σ:Type}{I:Prop}{o:Lo Unit Int}{f:Int}(h:lp0 o f (λr=>r)=0)(ho:LoP (λ_=>I) (λr:Int=>r≠0) o):I/\f=0:=by
 cases o with
 |fin u=>exact⟨ho,h⟩
 |ret r=>exact absurd h ho
theorem LoP.imp{σ ρ:Type}{I J:σ->Prop}{R:ρ->Prop}{o:Lo σ ρ}(h:LoP I R o)(k:∀ s,I s->J s):LoP J R o:=by
 cases o with
 |fin s=>exact k s h
 |ret r=>exact h
theorem chk3(p:F_):∀ (l:List Bv_) (k:Nat),He_ p l k=0->∀ g∈l,0<=g.frm/\g.frm<p.places.length/\0<=g.to'/\g.to'<p.places.length/\0<=g.budget/\g.budget<=16
 |[],_,_,_,h=>by cases h
 |x::l,k,h,g,hg=>by
   unfold He_ at h
   obtain ⟨hx,h2⟩:=lp0Z (σ:=Unit) (I:=0<=x.frm/\x.frm<p.places.length/\0<=x.to'/\x.to'<p.places.length/\0<=x.budget/\x.budget<=16) h (by
     refine bt (P:=LoP _ _) (λ_=>by show (10:Int)≠0;decide) λe=>?_
     refine bt (P:=LoP _ _) (λ_=>by show (11:Int)≠0;decide) λ_=>?_
     refine bt (P:=LoP _ _) (λ_=>by show (7:Int)≠0;decide) λe2=>?_
     simp only[AG,decide_eq_false_iff_not] at e e2
     exact (chk4 x _).imp λ_ _=>⟨by omega,by omega,by omega,by omega,by omega,by omega⟩)
   rcases List.mem_cons.1 hg with rfl|q
   . exact hx
   . exact chk3 p l (k+1) h2 g q
theorem chk2(p:F_):∀ l:List Int,Gk_ p l=0->p.grants.length<=8/\He_ p p.grants 0=0
 |[],h=>by
   unfold Gk_ at h
   cases e:decide (8<(p.grants.length:Int)) with
   |true=>rw[e] at h;cases h
   |false=>rw[e] at h;simp only[decide_eq_false_iff_not] at e;exact⟨by omega,h⟩
 |x::l,h=>by
   unfold Gk_ at h
   cases e:(decide (x<0) || decide ((p.places.length:Int)<=x)) with
   |true=>rw[e] at h;cases h
   |false=>rw[e] at h;exact chk2 p l h
theorem chk0(p:F_):∀ (l:List Av_) (k:Nat),Hd_ p l k=0->(∀ x∈l,0<=x.bytes/\x.bytes<=65536)/\0<p.slots.length/\p.slots.length<=32/\Gk_ p p.slots=0
 |[],k,h=>by
   unfold Hd_ at h
   cases e:decide ((p.slots.length:Int)=0) with
   |true=>rw[e] at h;cases h
   |false=>
     rw[e] at h
     cases e2:decide (32<(p.slots.length:Int)) with
     |true=>rw[e2] at h;cases h
     |false=>
       rw[e2] at h
       simp only[decide_eq_false_iff_not] at e e2
       exact⟨λ_ hx=>by (cases hx),by omega,by omega,h⟩
 |x::l,k,h=>by
   unfold Hd_ at h
   obtain ⟨hx,h2⟩:=lp0Z (σ:=Unit) (I:=0<=x.bytes/\x.bytes<=65536) h (by
     refine bt (P:=LoP _ _) (λe=>?_) λ_=>?_
     . show Gp_ x.name≠0
       simpa using e
     refine bt (P:=LoP _ _) (λ_=>by show (7:Int)≠0;decide) λe=>?_
     simp only[AG,decide_eq_false_iff_not] at e
     exact (chk1 x _).imp λ_ _=>⟨by omega,by omega⟩)
   obtain⟨h3,h4⟩:=chk0 p l (k+1) h2
   exact⟨λy hy=>by rcases List.mem_cons.1 hy with rfl|q;exact hx;exact h3 y q,h4⟩
theorem l05_ok{p:F_}(h:Np_ p=true):PoOk p:=by
 simp only[Np_,A4,decide_eq_true_eq,to_eq] at h;have h1:=h.2;unfold Pw_ at h1
 cases e0:(decide (p.work<1) || decide (16<p.work) || decide (p.give<1) || decide (16<p.give)) with
 |true=>rw[e0] at h1;cases h1
 |false=>
   rw[e0] at h1
   cases e1:decide ((p.places.length:Int)=0) with
   |true=>rw[e1] at h1;cases h1
   |false=>
     rw[e1] at h1
     cases e2:decide (16<(p.places.length:Int)) with
     |true=>rw[e2] at h1;cases h1
     |false=>
       rw[e2] at h1
       simp only[decide_eq_false_iff_not] at e1 e2
       obtain⟨a1,a2,a3,a4⟩:=chk0 p p.places 0 h1
       obtain⟨b1,b2⟩:=chk2 p p.slots a4
       exact⟨by omega,by omega,a2,a3,b1,chk3 p p.grants 0 b2,a1⟩
theorem l05_may{p:F_}(h:Np_ p=true):PoOk p/\0<p.places.length/\p.places.length<=16/\0<p.slots.length/\p.slots.length<=32/\p.grants.length<=8:=by
 have q:=l05_ok h;obtain⟨h1,h2,h3,h4,h5,_⟩:=id q;exact⟨q,h1,h2,h3,h4,h5⟩
theorem l23_ddl{l:List G_}(h:Kq_ l=true):DdA l/\l.length<=40:=⟨l23_dd h,(l23_dd h).2⟩
variable{P:Program}{n:Nat}{N:Rest}{H0:Env}{all rest:List Oper}{Q:Qs}{ks:List Kt}{fF:Nat->PV}{fL:Nat->Blk}{T ty d:Nat}{pos:String}{af:Array Edge}{x y z:Operand}{K:St->Prop}
noncomputable def allH(H:Hp)(L:Ls):Hp:=λb=>open Classical in if h:∃ o i,L i=some (b,o) then some h.choose else H b
theorem allH_own{N:Rest}{H:Hp}{L:Ls}{w:World}(hm:Mem N H L w){i b:Nat}{o:Obj}(h:L i=some (b,o)):allH H L b=some o:=by
 have he:∃ o i,L i=some (b,o):=⟨o,i,h⟩;unfold allH;rw[dif_pos he];obtain⟨j,hj⟩:=he.choose_spec;have :=hm.ll i j b o _ h hj;grind
theorem allH_le{N:Rest}{H:Hp}{L:Ls}{w:World}(hm:Mem N H L w):HLe H (allH H L):=λb o h=>by
 unfold allH
 split
 . rename_i he
   obtain⟨o',i,hi⟩:=he
   have :=(hm.nl i b o' hi).2
   rw[h] at this;cases this
 . exact h
theorem mem_lend{N:Rest}{H:Hp}{L:Ls}{w:World}(hm:Mem N H L w):Mem N (allH H L) (λ_=>none) w:=by
 refine⟨hm.os,hm.tape,hm.output,hm.n,λb o h=>?_,(λ_ _ _ h=>by cases h),λb o h=>?_,(λ_ _ _ h=>by cases h),(λ_ _ _ _ _ h=>by cases h)⟩
 . unfold allH at h
   split at h
   . rename_i he
     cases h
     obtain⟨j,hj⟩:=he.choose_spec
     exact hm.l _ _ _ hj
   exact hm.h b o h
 . unfold allH
   split
   . rename_i he
     obtain⟨o',i,hi⟩:=he
     have :=(hm.nl i b o' hi).1
     grind
   exact hm.nh b o h
theorem mem_lent{N:Rest}{H H':Hp}{L:Ls}{w w':World}(hm:Mem N H L w)(hl:HLe (allH H L) H')(hm':Mem N H' (λ_=>none) w'):Mem N H L w':=
 ⟨hm'.os,hm'.tape,hm'.output,hm'.n,λb o h=>hm'.h b o (hl b o (allH_le hm b o h)),λi b o h=>hm'.h b o (hl b o (allH_own hm h)),hm.nh,hm.nl,hm.ll⟩
inductive LentL(sL:Nat->Blk):List PV->List PV->Prop
 |nil:LentL sL [] []
 |same (p:PV) {ps qs:List PV} (h:LentL sL ps qs):LentL sL (p::ps) (p::qs)
 |lend (j:Nat) {α:Type} {u:Value} {k e:Nat} {enc:α->List PV} {xs:List α} {ps qs:List PV} (hj:sL j = .arr u k e enc xs) (h:LentL sL ps qs):LentL sL (.usl u::ps) (.sl enc xs::qs)
 |agg {ps qs rs ss:List PV} (h1:LentL sL ps qs) (h:LentL sL rs ss):LentL sL (.agg ps::rs) (.agg qs::ss)
theorem LentL.sims{sL:Nat->Blk}{H H':Hp}{L:Ls}(hl:HLe H H')(ho:∀ i b o,L i=some (b,o)->H' b=some o)(hb:∀ i,SimB sL H (sL i) (L i)){ps qs:List PV}(h:LentL sL ps qs):∀ {vs:List Value},Sims H ps vs->Sims H' qs vs:=by
 induction h with
 |nil=>intro vs hs;cases hs.inv_nil;exact Sims.nil
 |same p _ ih=>
   intro vs hs
   obtain⟨v,us,rfl,h1,h2⟩:=hs.inv_cons
   exact (ih h2).cons (h1.mono hl)
 |lend j hj _ ih=>
   intro vs hs
   obtain⟨v,us,rfl,h1,h2⟩:=hs.inv_cons
   have e:=h1.inv_usl.1
   subst e
   have hi:=hb j
   rw[hj] at hi
   obtain⟨cs,h3,h4,h5⟩:=hi
   exact (ih h2).cons (Sim.of_slh (slh_ownE Ls_ h3 (h4.mono Pz_ hl) λb o q=>ho j b o q) h5)
 |agg _ _ ih1 ih=>
   intro vs hs
   obtain⟨v,us,rfl,h1,h2⟩:=hs.inv_cons
   obtain⟨zs,rfl,h3⟩:=h1.inv_agg
   exact (ih h2).cons (Sim.toAgg (ih1 h3))
theorem ecallL{f:FuncId}{args args':List PV}{res:PV}{as0:Array Operand}{ats:Array TypeId}(h:Fn P H0.g f args' res)(hf:res.flat=true)(ha:argsP fF x as0.toList=some (f,args))(hl:LentL fL args args')(hd:Nat.blt d n=true)
   (k:res.wf->K ⟨updp fF d res,fL⟩):E1 P n N H0 all ⟨some d, .call ⟨.value x,as0,ats⟩,ty,pos,af,none⟩ none ⟨fF,fL⟩ K:=by
 intro F H L hab a w hA hm;obtain⟨vs,h1,h2⟩:=I6_ (ats:=ats) hab.f ha h.cb;have hle:=allH_le hm;have hs:=hl.sims hle (λi b o q=>allH_own hm q) hab.l h1;rw[if_pos qD];unfold Oper.wp;rw[hA.eval,h2];refine (h.run N (allH H L) _ w vs (H0.g.mono _ _ hle hab.g) hs (mem_lend hm)).mono λe' w' ⟨v,H',he,hv,hl',hm'⟩=>?_;subst he;exact⟨_,H,L,hA.put qF v,mem_lent hm hl' hm', .refl H,λ_ _=>rfl,_,hab.put d (Sim.simT (Sim.flat_any hf hv) h.no),k hv.wf⟩
theorem tie_le{α:Type}{i j o b T0 k e:Nat}{cs:List PV}{u:Value}{enc:α->List PV}{xs:List α}(hb:fL i = .box b T0 cs)(hj:fL j = .arr u k e enc xs)(ho:cs[o]? = some (.usl u)):StLe ⟨fF,fL⟩ ⟨fF,lups fL i (.box b T0 (cs.set o (.osl j)))⟩:=by
 intro H0 F H L ha;have hij:j≠i:=λq=>by rw[q,hb] at hj;cases hj
 have hp:∀ {p v},SimT fL H p v->SimT (lups fL i (.box b T0 (cs.set o (.osl j)))) H p v:=λ{p v} h=>by
   cases p with
   |osl q=>
     simp only[SimT] at h ⊢
     by_cases hq:q=i
     . subst hq;simp only[lups,GB,cond_true]
     . rw[F2_ _ _ _ _ hq];exact h
   |_=>exact h
 refine⟨ha.le,ha.g,λt=>hp (ha.f t),λq=>?_⟩;have hq:SimB fL H (fL q) (L q):=ha.l q;by_cases e:q=i
 . subst e
   show SimB _ H (lups fL q _ q) (L q)
   rw[C1_]
   rw[hb] at hq
   obtain⟨vs,h1,h2,h3⟩:=hq
   refine⟨vs,h1,by simp[h2],λm p v hm hv=>?_⟩
   rw[CG] at hm
   split at hm
   . rename_i hom
     subst hom
     split at hm
     . cases hm
       have h4:=h3 _ _ _ ho hv
       have h5:v=u:=(Sim.inv_usl h4).1
       simp only[SimT]
       rw[F2_ _ _ _ _ hij,hj]
       exact h5
     . cases hm
   grind
 . show SimB _ H (lups fL i _ q) (L q)
   rw[F2_ _ _ _ _ e]
   have hq':SimB fL H (fL q) (L q):=hq
   generalize fL q=B at hq' ⊢
   cases B with
   |box b' T' cs'=>obtain⟨vs,h1,h2,h3⟩:=hq';exact⟨vs,h1,h2,λm p v hm hv=>hp (h3 m p v hm hv)⟩
   |_=>exact hq'
theorem bx_tie{α:Type}{i o b T0 k e:Nat}{cs:List PV}{u:Value}{enc:α->List PV}{xs:List α}(j:Nat)(hb:fL i = .box b T0 cs)(hj:fL j = .arr u k e enc xs)(ho:cs[o]? = some (.usl u))(kk:Hd P n N H0 Q (.ops all rest) ks ⟨fF,lups fL i (.box b T0 (cs.set o (.osl j)))⟩):Hd P n N H0 Q (.ops all rest) ks ⟨fF,fL⟩:=
 So.le (tie_le hb hj ho) kk
end Go.SW.V
namespace Go.SW.V
open Go.SW
variable{P:Program}{N:Rest}{H0:Env}{s:St}{T T' ty:TypeId}{x:Operand}
theorem qnilN{q:Array (String×TypeId)}(hx:evP s.F x = .val .nilIface)(hT:P.underlying T=some (.interface q)):Qy P N H0 s (.binOp .neq T x (.const .nilIface) T') ty (.bool false):=λF H L ha=>by
 have h1:=Cn_ ha.f x
 unfold Ok1 at h1
 rw[hx] at h1
 have h2:=h1.sim.inv_val
 have h:∀ d w,(Op.equalIn (d+1) T .nilIface .nilIface).run P w = .ok true w:=λd w=>by simp[Op.equalIn,run_underlying hT]
 exact⟨_,Sim.bool,λ_ _ _=>Hk_ (b:= .nilIface) h2 Z (λw=>by simp[eqGuard]) λw=>by simp[binOp,Og_ (h · w)]⟩
theorem qfA{cs ps:List PV}{fs:Array Field}{f:Field}{i k:Nat}(hx:evP s.F x = .agg cs)(hT:P.underlying T=some (.struct fs))(hf:fs[i]? = some f)(ha:Ag P f.type true)(hz:Sz P f.type k)(hc:(cs.drop f.offset).take k=ps):Qy P N H0 s (.field T x i) ty (.agg ps):=λF H L hab=>by
 have h1:=Cn_ hab.f x
 unfold Ok1 at h1
 rw[hx] at h1
 obtain⟨vs,hv,hs⟩:=h1.sim.inv_agg
 refine⟨.agg ((vs.drop f.offset).take k).toArray,hc ▸ Sim.toAgg ((hs.drop f.offset).take k),λH' L' _ d pos af g w _=>?_⟩
 have :=ha w
 have :=hz w
 simp[execOp,hv,Instr.field,run_underlying hT,hf,part,asAgg, *]
theorem inv_fn0{H:Hp}{f:FuncId}{v:Value}(h:Sim H (.fn f [] []) v):v = .func (.func f) #[] #[]:=by
 obtain⟨vs,us,rfl,h1,h2⟩:=h.inv_fn
 cases h1.inv_nil;cases h2.inv_nil
 rfl
end Go.SW.V
namespace Go.SW.V
open Go.SW
def Lq_(s:Bs):(List Bs):=
 (flds s)
def Kh_(n:Int)(least:Int)(most:Int):Int:=
 (bif decide (n<least) then
 15
 else (bif decide (most<n) then
 6
 else 0))
def Ma_(y:Av_)(x1:Av_):Bool:=
 ((decide (y.name=x1.name))||(decide (y.label=x1.label)))
def L9_(y:Bv_)(x1:Bv_):Bool:=
 ((decide (y.frm=x1.frm))&&(decide (y.to'=x1.to')))
def Pf_(s:List Int)(v:Int):Bool:=
 lt (idxP (λy=>decide (v=y)) s) λr=>
 (decide (0<=r))
def Mf_:List Int->Int
 |[]=>0
 | x::t=>(bif !decide (x=0) then
 x
 else Mf_ t)
def cmp_Or(vals:List Int):Int:=
 Mf_ vals
def Kr_(a:Cr_):Bool:=
 (decide (a.level<=15))
def E1_(s:Bs)(most:Int):Nat->Nat->Int->Int×Int
 |0,_,_=>default
 | f2+1,k1,n1=>(bif decide ((k1:Int)<(s.length:Int)) then
 (bif ((decide (((s.getD k1 0).toNat:Int)<48))||(decide (57<((s.getD k1 0).toNat:Int)))) then
 ((k1:Int),n1)
 else (bif decide (n1<=most) then
 E1_ s most f2 (k1+1) ((10*n1)+(A0 .u8 (((s.getD k1 0).toNat:Int)-48)))
 else E1_ s most f2 (k1+1) n1))
 else ((k1:Int),n1))
def Fa_(s:Bs)(most:Int):Int×Bs×Int:=
 (lt2 (E1_ s most (s.length-0+1) 0 0) (λk n=>
 (bif ((decide (k=0))&&(decide ((s.length:Int)=0))) then
 (0,[],3)
 else (lt1 ((bif decide (k=0) then
 (decide (k=0))
 else ((decide (1<k))&&(decide (((s.getD 0 0).toNat:Int)=48))))) (λv=>
 (bif v then
 (0,[],4)
 else (bif decide (most<n) then
 (0,[],7)
 else (n,(s.drop (k).toNat),0))))))))
theorem plen_w{s l:Bs}{r:List Bs}(h:plen s=true)(hr:Lq_ l=r)(hz:l.length<=65536/\(flds l).length<=65536/\∀ w∈flds l,0<w.length/\w.length<=19):∀ w∈r,0<w.length/\w.length<=19:=by
 subst hr;exact hz.2.2
theorem there_in{p:F_}{i:Int}(h:B3_ p i=true):0<=i/\i<p.places.length:=by
 simp only[B3_,Eo_,A4,decide_eq_true_eq] at h;omega
theorem wrap8_r(z:Int):0<=IntKind.wrap .u8 z/\IntKind.wrap .u8 z<=255:=L6_ .u8 z
theorem lnum_l(s:Bs)(most:Int):∀ (f k:Nat) (n:Int),0<=n->0<=(E1_ s most f k n).2
 |0,_,_,_=>by simp[E1_,default]
 |f+1,k,n,hn=>by
   unfold E1_
   let Q:Int×Int->Prop:=λr=>0<=r.2
   refine bt (P:=Q) (λ_=>?_) λ_=>hn
   refine bt (P:=Q) (λ_=>hn) λ_=>?_
   refine bt (P:=Q) (λ_=>lnum_l s most f _ _ ?_) λ_=>lnum_l s most f _ _ hn
   have :=(wrap8_r (((s.getD k 0).toNat:Int)-48)).1
   omega
theorem lnum_r(s:Bs)(most:Int)(hm:0<=most/\most<=1000):0<=(Fa_ s most).1/\(Fa_ s most).1<=1000/\(Fa_ s most).2.1.length<=s.length:=by
 unfold Fa_;have h:=lnum_l s most (s.length-0+1) 0 0 (BP _);generalize E1_ s most (s.length-0+1) 0 0=q at h ⊢;obtain⟨k,n⟩:=q;let Q:Int×Bs×Int->Prop:=λr=>0<=r.1/\r.1<=1000/\r.2.1.length<=s.length;have hno:∀ e:Int,Q (0,[],e):=λe=>⟨Int.le_refl _,by show (0:Int)<=1000;decide,AQ _⟩;show Q (bif _ then _ else _);refine bt (P:=Q) (λ_=>hno _) λ_=>?_;refine lt1E (P:=Q) (λ_=>True) U λv _=>?_;refine bt (P:=Q) (λ_=>hno _) λ_=>?_;refine bt (P:=Q) (λ_=>hno _) λe=>?_;simp only[decide_eq_false_iff_not] at e;exact⟨h,by show n<=1000;omega,by show (s.drop _).length<=_;rw[B5];omega⟩
def Lp_(x:Av_)(ahead:List Av_):Int:=
 (bif !decide ((Gp_ x.name)=0) then
 (Gp_ x.name)
 else (lt1 ((bif !(Kr_ x.label) then
 (!(Kr_ x.label))
 else (bif !(Eo_ x.bytes 0 65536) then
 (!(Eo_ x.bytes 0 65536))
 else (decide (x.base=0))))) (λv=>
 (bif v then
 7
 else (bif decide (0<=idxP (λz_28:Av_=>(Ma_ z_28 x)) ahead) then
 9
 else 0)))))
def Hl_(p:F_)(x:Bv_)(ahead:List Bv_):Int:=
 (bif !(B3_ p x.frm) then
 10
 else (bif !(B3_ p x.to') then
 10
 else (bif (Ij_ ((gt p.places ((x.frm).toNat)).label) ((gt p.places ((x.to').toNat)).label)) then
 11
 else (bif !(Eo_ x.budget 0 16) then
 7
 else (bif decide (0<=idxP (λz_32:Bv_=>(L9_ z_32 x)) ahead) then
 9
 else 0)))))
def G8_(p:F_):Nat->Int->Nat->Int
 |0,_,_=>default
 | f2+1,e_1,i=>(bif ((decide (e_1=0))&&(decide ((i:Int)<(p.places.length:Int)))) then
 G8_ p f2 (Lp_ (gt p.places i) (p.places.take i)) (i+1)
 else e_1)
def Fx_(p:F_):Int:=
 lt (Kh_ (p.places.length:Int) 1 16) λr=>
 G8_ p (p.places.length+1-0+1) r 0
def F5_(p:F_):Nat->Int->Nat->Int
 |0,_,_=>default
 | f2+1,e_1,i=>(bif ((decide (e_1=0))&&(decide ((i:Int)<(p.slots.length:Int)))) then
 (bif !(B3_ p (gt p.slots i)) then
 F5_ p f2 10 (i+1)
 else F5_ p f2 e_1 (i+1))
 else e_1)
def F9_(p:F_):Int:=
 lt (Kh_ (p.slots.length:Int) 1 32) λr=>
 F5_ p (p.slots.length+1-0+1) r 0
def G7_(p:F_):Nat->Int->Nat->Int
 |0,_,_=>default
 | f2+1,e_1,i=>(bif ((decide (e_1=0))&&(decide ((i:Int)<(p.grants.length:Int)))) then
 G7_ p f2 (Hl_ p (gt p.grants i) (p.grants.take i)) (i+1)
 else e_1)
def Fw_(p:F_):Int:=
 lt (Kh_ (p.grants.length:Int) 0 8) λr=>
 G7_ p (p.grants.length+1-0+1) r 0
def Ej_(p:F_):List Av_->Nat->Int
 |[],k=>0
 | x::t,k=>(bif !(Pf_ p.slots (k:Int)) then
 15
 else Ej_ p t (k+1))
def Ik_(p:F_):Int:=
 (bif ((!(Eo_ p.work 1 16))||(!(Eo_ p.give 1 16))) then
 7
 else (bif !decide ((cmp_Or [(Fx_ p),(F9_ p),(Fw_ p)])=0) then
 (cmp_Or [(Fx_ p),(F9_ p),(Fw_ p)])
 else Ej_ p p.places 0))
def Gq_(s:Bs)(most:Int):List UInt8->Int×Int
 | []=>(bif decide (most<(dec s:Int)) then
 (0,7)
 else ((dec s:Int),0))
 | x::t=>(bif ((decide ((x.toNat:Int)<48))||(decide (57<(x.toNat:Int)))) then
 (0,4)
 else Gq_ s most t)
def Jk_(s:Bs)(most:Int):Int×Int:=
 (bif ((decide (s=[]))||((decide (1<(s.length:Int)))&&(decide (((s.getD 0 0).toNat:Int)=48)))) then
 (0,4)
 else Gq_ s most s)
def Gi_(s:Bs):Int×Int:=
 lt (Jk_ s 1048576) λr=>
 ((A0 .i64 r.1),r.2)
def Bo_(p:F_)(s:Bs):Int×Int:=
 lt (Dz_ p s) λr=>
 (bif decide (0<=r) then
 (r,0)
 else (0,10))
def J0_:Nat->Bs->Int->Cr_->Cr_×Int
 |0,_,_,_=>default
 | f2+1,s1,last,x=>(bif decide (0<(s1.length:Int)) then
 (bif !decide (((s1.getD 0 0).toNat:Int)=58) then
 ((⟨0,0⟩:Cr_),4)
 else lt (Fa_ (s1.drop 1) 31) λr1=>
 (bif !decide (r1.2.2=0) then
 ((⟨0,0⟩:Cr_),r1.2.2)
 else (bif decide (r1.1<=last) then
 ((⟨0,0⟩:Cr_),4)
 else J0_ f2 r1.2.1 r1.1 (⟨x.level,(A0 .u32 ((AA (A9 .u32) x.set_ |||AA (A9 .u32) (A0 .u32 (1*2 ^ (min (r1.1:Int).toNat (A9 .u32))))).toNat))⟩:Cr_))))
 else (x,0))
def Hw_(s:Bs):Cr_×Int:=
 lt (Fa_ s 15) λr=>
 (bif !decide (r.2.2=0) then
 ((⟨0,0⟩:Cr_),r.2.2)
 else J0_ (r.2.1.length+1) r.2.1 (-1) (⟨(A0 .u8 r.1),0⟩:Cr_))
def Bz_:List Bs->Nat->Int->Int->List Av_->List Int->List Bv_->F_×Int×Int
 |[],k,work,give_,places,slots,grants=>lt (Ik_ (⟨work,give_,places,slots,grants⟩:F_)) λr16=>
 (bif !decide (r16=0) then
 ((⟨0,0,[],[],[]⟩:F_),0,r16)
 else ((⟨work,give_,places,slots,grants⟩:F_),0,0))
 |x::t,k,work,give_,places,slots,grants=>lt (Lq_ x) λr=>
 (bif ((decide ((r.length:Int)=0))||(decide ((((gt r 0).getD 0 0).toNat:Int)=35))) then
 Bz_ t (k+1) work give_ places slots grants
 else (bif decide ((gt r 0)=[108,97,98,101,108]) then
 (bif !decide ((r.length:Int)=5) then
 ((⟨0,0,[],[],[]⟩:F_),((k:Int)+1),4)
 else (bif decide ((gt r 0)=[119,111,114,107]) then
 lt (Gi_ (gt r 1)) λr1=>
 (bif !decide (r1.2=0) then
 ((⟨0,0,[],[],[]⟩:F_),((k:Int)+1),r1.2)
 else Bz_ t (k+1) r1.1 give_ places slots grants)
 else (bif decide ((gt r 0)=[103,105,118,101]) then
 lt (Gi_ (gt r 1)) λr2=>
 (bif !decide (r2.2=0) then
 ((⟨0,0,[],[],[]⟩:F_),((k:Int)+1),r2.2)
 else Bz_ t (k+1) work r2.1 places slots grants)
 else (bif decide ((gt r 0)=[115,108,111,116]) then
 lt (Bo_ (⟨work,give_,places,slots,grants⟩:F_) (gt r 1)) λr3=>
 (bif !decide (r3.2=0) then
 ((⟨0,0,[],[],[]⟩:F_),((k:Int)+1),r3.2)
 else Bz_ t (k+1) work give_ places (slots++[r3.1]) grants)
 else lt (Hw_ (gt r 2)) λr4=>
 (bif !decide (r4.2=0) then
 ((⟨0,0,[],[],[]⟩:F_),((k:Int)+1),r4.2)
 else lt (Gi_ (gt r 3)) λr5=>
 (bif !decide (r5.2=0) then
 ((⟨0,0,[],[],[]⟩:F_),((k:Int)+1),r5.2)
 else lt (Jk_ (gt r 4) 18446744073709551615) λr6=>
 (bif !decide (r6.2=0) then
 ((⟨0,0,[],[],[]⟩:F_),((k:Int)+1),r6.2)
 else Bz_ t (k+1) work give_ (places++[(⟨(gt r 1),r4.1,r5.1,r6.1⟩:Av_)]) slots grants)))))))
 else (bif decide ((gt r 0)=[103,114,97,110,116]) then
 (bif !decide ((r.length:Int)=4) then
 ((⟨0,0,[],[],[]⟩:F_),((k:Int)+1),4)
 else (bif decide ((gt r 0)=[119,111,114,107]) then
 lt (Gi_ (gt r 1)) λr7=>
 (bif !decide (r7.2=0) then
 ((⟨0,0,[],[],[]⟩:F_),((k:Int)+1),r7.2)
 else Bz_ t (k+1) r7.1 give_ places slots grants)
 else (bif decide ((gt r 0)=[103,105,118,101]) then
 lt (Gi_ (gt r 1)) λr8=>
 (bif !decide (r8.2=0) then
 ((⟨0,0,[],[],[]⟩:F_),((k:Int)+1),r8.2)
 else Bz_ t (k+1) work r8.1 places slots grants)
 else (bif decide ((gt r 0)=[115,108,111,116]) then
 lt (Bo_ (⟨work,give_,places,slots,grants⟩:F_) (gt r 1)) λr9=>
 (bif !decide (r9.2=0) then
 ((⟨0,0,[],[],[]⟩:F_),((k:Int)+1),r9.2)
 else Bz_ t (k+1) work give_ places (slots++[r9.1]) grants)
 else lt (Bo_ (⟨work,give_,places,slots,grants⟩:F_) (gt r 1)) λr10=>
 (bif !decide (r10.2=0) then
 ((⟨0,0,[],[],[]⟩:F_),((k:Int)+1),r10.2)
 else lt (Bo_ (⟨work,give_,places,slots,grants⟩:F_) (gt r 2)) λr11=>
 (bif !decide (r11.2=0) then
 ((⟨0,0,[],[],[]⟩:F_),((k:Int)+1),r11.2)
 else lt (Gi_ (gt r 3)) λr12=>
 (bif !decide (r12.2=0) then
 ((⟨0,0,[],[],[]⟩:F_),((k:Int)+1),r12.2)
 else Bz_ t (k+1) work give_ places slots (grants++[(⟨r10.1,r11.1,r12.1⟩:Bv_)]))))))))
 else (bif decide ((gt r 0)=[119,111,114,107]) then
 (bif !decide ((r.length:Int)=2) then
 ((⟨0,0,[],[],[]⟩:F_),((k:Int)+1),4)
 else lt (Gi_ (gt r 1)) λr13=>
 (bif !decide (r13.2=0) then
 ((⟨0,0,[],[],[]⟩:F_),((k:Int)+1),r13.2)
 else Bz_ t (k+1) r13.1 give_ places slots grants))
 else (bif decide ((gt r 0)=[103,105,118,101]) then
 (bif !decide ((r.length:Int)=2) then
 ((⟨0,0,[],[],[]⟩:F_),((k:Int)+1),4)
 else lt (Gi_ (gt r 1)) λr14=>
 (bif !decide (r14.2=0) then
 ((⟨0,0,[],[],[]⟩:F_),((k:Int)+1),r14.2)
 else Bz_ t (k+1) work r14.1 places slots grants))
 else (bif decide ((gt r 0)=[115,108,111,116]) then
 (bif !decide ((r.length:Int)=2) then
 ((⟨0,0,[],[],[]⟩:F_),((k:Int)+1),4)
 else lt (Bo_ (⟨work,give_,places,slots,grants⟩:F_) (gt r 1)) λr15=>
 (bif !decide (r15.2=0) then
 ((⟨0,0,[],[],[]⟩:F_),((k:Int)+1),r15.2)
 else Bz_ t (k+1) work give_ places (slots++[r15.1]) grants))
 else ((⟨0,0,[],[],[]⟩:F_),((k:Int)+1),4)))))))
def Kg_(s:Bs):F_×Int×Int:=
 Bz_ (cuts 10 s) 0 0 0 [] [] []
def Wb_:Bool:=
 lt (Hw_ [50,58,48,58,53]) λr=>
 lt (Hw_ [51,58,48,58,53,58,55]) λr1=>
 lt (Hw_ [51,58,53]) λr2=>
 ((((((decide (r.2=0))&&(decide (r1.2=0)))&&(decide (r2.2=0)))&&(Ij_ r.1 r1.1))&&(!(Ij_ r.1 r2.1)))&&(!(Ij_ r1.1 r.1)))
def Wa_:Bool:=
 (Wb_)
def We_:Bool:=
 lt (Kg_ [119,111,114,107,32,52,10,103,105,118,101,32,49,10,108,97,98,101,108,32,108,111,119,32,48,32,53,49,50,32,49,10,115,108,111,116,32,108,111,119]) λr=>
 (((((((Wa_)&&true)&&(decide (r.2.1=0)))&&(decide (r.2.2=0)))&&(decide ((r.1.places.length:Int)=1)))&&(decide (r.1.work=4)))&&(decide (((gt r.1.places 0).bytes)=512)))
def Wc_:Bool:=
 (We_)
def Wl_:Bool:=
 lt (Dm_ (⟨[]⟩:As_) (⟨3,[97],[],[],[],0,0⟩:Mail)) λr=>
 lt (Dm_ r.1 (⟨5,[97],[],[],[],0,0⟩:Mail)) λr1=>
 lt (Eb_ r1.1) λr2=>
 lt (Eb_ r2.1) λr3=>
 lt (Fo_ r3.1 3) λr4=>
 lt (Gg_ r4.1) λr5=>
 (((((((((decide (r.2=0))&&(decide (r1.2=0)))&&r2.2.2)&&(decide (r2.2.1.Ad_.id=3)))&&r3.2.2)&&(decide (r3.2.1.Ad_.id=5)))&&(decide (r4.2=0)))&&r5.2)&&(decide (r5.1.id=3)))
def Wk_:Bool:=
 (Wl_)
def Na_:Nat->Nat->By_->Bool
 |0,_,_=>default
 | f2+1,v,x=>(bif decide ((v:Int)<40) then
 lt (D7_ x (⟨0,(A0 .u8 (v:Int)),[]⟩:Ea_)) λr=>
 Na_ f2 (v+1) r.1
 else lt (H8_ x 9) λr1=>
 lt (H8_ x 8) λr2=>
 (((r1.2&&(decide (r1.1.kind=8)))&&(!r2.2))&&(decide ((Lc_ x)=40))))
def Sm_:Bool:=
 Na_ (40-0+1) 0 (⟨0,[]⟩:By_)
def Wm_:Bool:=
 (Sm_)
def Nb_:Nat->Nat->Ag_->Bool
 |0,_,_=>default
 | f2+1,v,x=>(bif decide ((v:Int)<20) then
 lt (Dc_ x (⟨0,[97],[],[],[],0,0⟩:Mail)) λr=>
 Nb_ f2 (v+1) r.1
 else lt (Hm_ x 0) λr1=>
 lt (Hm_ x 20) λr2=>
 (((decide (r1.1=5))&&r1.2.2)&&(!r2.2.2)))
def Sn_:Bool:=
 Nb_ (20-0+1) 0 (⟨0,[]⟩:Ag_)
def Wn_:Bool:=
 (Sn_)
def Wp_:Bool:=
 lt (Dw_ 7 100) λr=>
 lt (Ba_ r (⟨[113],3,0,[]⟩:T_)) λr1=>
 lt (A8_ r1.1 [113] (⟨0,[97],[],[],[],0,0⟩:Mail)) λr2=>
 (((((Wk_)&&(Wn_))&&(decide (r1.2=0)))&&(decide (r2.2.2.2=0)))&&(decide (r2.2.1=7)))
def Wo_:Bool:=
 (Wp_)
def Nc_:Nat->Nat->D_->Bool
 |0,_,_=>default
 | f2+1,v,x=>(bif decide ((v:Int)<([(⟨0,0,(⟨[97],1,[]⟩:W_),(⟨[],0,0,[]⟩:T_),(⟨[],[],false,[],[],false⟩:O_),[],0,0,0,0,0,(⟨0,[],[],[],[],0,0⟩:Mail),[]⟩:G_),(⟨2,0,(⟨[],0,[]⟩:W_),(⟨[113],4,0,[]⟩:T_),(⟨[],[],false,[],[],false⟩:O_),[],0,0,0,0,0,(⟨0,[],[],[],[],0,0⟩:Mail),[]⟩:G_),(⟨4,0,(⟨[],0,[]⟩:W_),(⟨[],0,0,[]⟩:T_),(⟨[97],[113],false,[],[],false⟩:O_),[],0,0,0,0,0,(⟨0,[],[],[],[],0,0⟩:Mail),[]⟩:G_)].length:Int)) then
 lt (K_ x (gt [(⟨0,0,(⟨[97],1,[]⟩:W_),(⟨[],0,0,[]⟩:T_),(⟨[],[],false,[],[],false⟩:O_),[],0,0,0,0,0,(⟨0,[],[],[],[],0,0⟩:Mail),[]⟩:G_),(⟨2,0,(⟨[],0,[]⟩:W_),(⟨[113],4,0,[]⟩:T_),(⟨[],[],false,[],[],false⟩:O_),[],0,0,0,0,0,(⟨0,[],[],[],[],0,0⟩:Mail),[]⟩:G_),(⟨4,0,(⟨[],0,[]⟩:W_),(⟨[],0,0,[]⟩:T_),(⟨[97],[113],false,[],[],false⟩:O_),[],0,0,0,0,0,(⟨0,[],[],[],[],0,0⟩:Mail),[]⟩:G_)] v)) λr1=>
 (bif !decide (r1.2.2=0) then
 false
 else Nc_ f2 (v+1) r1.1)
 else lt (K_ x (⟨6,0,(⟨[],0,[]⟩:W_),(⟨[],0,0,[]⟩:T_),(⟨[],[],false,[],[],false⟩:O_),[],0,0,0,0,0,(⟨0,[97],[],[],[120],0,0⟩:Mail),[]⟩:G_)) λr2=>
 lt (K_ r2.1 (⟨7,0,(⟨[],0,[]⟩:W_),(⟨[],0,0,[]⟩:T_),(⟨[],[],false,[],[],false⟩:O_),[113],0,0,0,0,0,(⟨0,[],[],[],[],0,0⟩:Mail),[]⟩:G_)) λr3=>
 ((((((((Wc_)&&(Wo_))&&true)&&(Wm_))&&(decide (r2.2.2=0)))&&(decide (r2.2.1.count=1)))&&(decide (r3.2.2=0)))&&(decide (r3.2.1.item.Ad_.body=[120]))))
def So_:Bool:=
 lt (Bu_ (⟨4,1,[(⟨[108,111,119],(⟨0,0⟩:Cr_),500,1⟩:Av_)],[0],[]⟩:F_) 0) λr=>
 Nc_ (([(⟨0,0,(⟨[97],1,[]⟩:W_),(⟨[],0,0,[]⟩:T_),(⟨[],[],false,[],[],false⟩:O_),[],0,0,0,0,0,(⟨0,[],[],[],[],0,0⟩:Mail),[]⟩:G_),(⟨2,0,(⟨[],0,[]⟩:W_),(⟨[113],4,0,[]⟩:T_),(⟨[],[],false,[],[],false⟩:O_),[],0,0,0,0,0,(⟨0,[],[],[],[],0,0⟩:Mail),[]⟩:G_),(⟨4,0,(⟨[],0,[]⟩:W_),(⟨[],0,0,[]⟩:T_),(⟨[97],[113],false,[],[],false⟩:O_),[],0,0,0,0,0,(⟨0,[],[],[],[],0,0⟩:Mail),[]⟩:G_)].length)-0+1) 0 r
theorem Vs_{l:List G_}{k:Nat}{d:G_}(h:(PV.sl G_.pc l).wf)(hd:l[k]? = some d):0<=d.Ad_.hops:=by
 have :=(h.2 d (A2 hd)).2.2.2.2.2.2.2.2.2.2.2.2.2.2.2.2.2.2.2.2.2.2.2.2.2.2.2.1;exact this.1
theorem all_len0:∀ (t out:List V_),(Do_ t out).length=out.length+t.length
 |[],out=>rfl
 |x::t,out=>by
   unfold Do_ lt
   rw[all_len0 t];simp;omega
theorem all_len{l:As_}(h:LnOk l):(Fd_ l).length<=64:=by
 unfold Fd_;rw[all_len0];have :=h.1;simp;omega
structure Clo(B:Az_->Prop)(K:I_->Prop)(M:By_->Prop):Prop where
 ma:∀ {b x},0<=x.sort->B b->B (Dd_ b x).1
 bd:∀ {b x},(∀ p∈x.want,p.wf)->B b->B (B0_ b x).1
 dp:∀ {b n},B b->B (Fb_ b n).1
 ub:∀ {b x},B b->B (Ee_ b x).1
 fg:∀ {b q},B b->B (Fj_ b q)
 km:∀ {k q},K k->K (Ba_ k q).1
 kd:∀ {k n},K k->K (C4_ k n).1
 kp:∀ {k n m},StkOk k->K k->K (A8_ k n m).1
 kl:∀ {k n},K k->K (Ct_ k n).1
 kr:∀ {k n i},K k->K (At_ k n i).1
 kb:∀ {k n i},K k->K (Dp_ k n i).1
 ks:∀ {k p m},K k->K (Cf_ k p m).1
 kw:∀ {k},StkOk k->K k->K (Ff_ k)
 na:∀ {n x},0<=x.kind/\x.kind<=255->M n->M (D7_ n x).1
def Cl(B:Az_->Prop)(K:I_->Prop)(M:By_->Prop)(s:D_):Prop:=B s.x.book/\K s.x.E_/\M s.x.notes
section
variable{B:Az_->Prop}{K:I_->Prop}{M:By_->Prop}(C:Clo B K M)
include C
variable{s:D_}
omit C in
section
variable{m:Mail}{tick:Int}{r:List Bs×List Bs×Int}
end
section
variable{d:G_}
end
end
def BiB(y:O_):Prop:=y.Bl_.length<=16/\Gp_ y.to'=0/\y.key.length<=64/\Ii_ y.want=0/\∀ p∈y.want,p.wf
def BkB(b:Az_):Prop:=(∀ s∈b.D3_,P2_ s=0/\0<=s.sort)/\∀ y∈b.binds,BiB y
def RoB(k:I_):Prop:=∀ r∈k.rows,Ef_ r.q=0
def NoB(n:By_):Prop:=∀ x∈n.kept,x.text.length<=64/\0<=x.kind/\x.kind<=255
theorem N3_{s:Bs}(h:Gp_ s=0):s.length<=16:=by
 unfold Gp_ at h
 split at h
 . cases h
 . split at h
   . cases h
   omega
theorem keyE_len{l:List Bs}{s:Bs}(h:keyE l s=0):s.length<=64:=by
 unfold keyE at h
 split at h
 . cases h
 omega
theorem shopE_f{x:W_}(h:P2_ x=0):x.name.length<=16/\x.to'.length<=16/\x.sort<=4:=by
 unfold P2_ at h
 split at h
 . rename_i q;exact (q h).elim
 . rename_i q
   split at h
   . cases h
   . refine⟨N3_ (by simpa using q),?_,by omega⟩
     split at h
     exact N3_ h
     . split at h
       . cases h
       . rename_i q2;rw[show x.to'=[] by simpa using q2];simp
theorem Vf_{q:T_}(h:Ef_ q=0):q.name.length<=16/\q.dead.length<=16/\1<=q.most/\q.most<=64:=by
 unfold Ef_ at h;by_cases q1:Gp_ q.name=0
 . rw[decide_eq_true q1] at h
   simp only[A5,cond_false] at h
   cases e:(decide (q.most<1) || decide (64<q.most)) with
   |true=>rw[e] at h;cases h
   |false=>
     rw[e] at h
     simp only[cond_false] at h
     simp only[AG,decide_eq_false_iff_not] at e
     refine⟨N3_ q1,?_,by omega,by omega⟩
     by_cases q2:q.dead=[]
     . rw[q2];simp
     . rw[decide_eq_false q2] at h;exact N3_ h
 rw[decide_eq_false q1] at h;exact (q1 h).elim
theorem mem_td{α:Type}{l:List α}{a b:Nat}{x:α}(h:x∈[l.take a,l.drop b].flatten):x∈l:=by
 simp only[AN,AU,AT,List.mem_append] at h
 rcases h with h|h
 exact List.mem_of_mem_take h;exact AS h
theorem mem_one{α:Type}{l:List α}{y x:α}(h:x∈[l,[y]].flatten):x∈l\/x=y:=by
 simpa using h
theorem U7_(f:O_->Bool):∀ (t out:List O_) (y:O_),y∈Ce_ f t out->y∈out\/y∈t
 |[],out,y,h=> .inl h
 |x::t,out,y,h=>by
   unfold Ce_ at h
   cases e:f x with
   |true=>
     rw[e] at h
     rcases U7_ f t _ y h with q|q
     . rcases List.mem_append.1 q with q|q
       . exact .inl q
       . exact .inr (by rw[List.mem_singleton.1 q];simp)
     . exact .inr (by simp[q])
   |false=>
     rw[e] at h
     rcases U7_ f t _ y h with q|q
     . exact .inl q
     . exact .inr (by simp[q])
theorem ruleE_f{r:Rule}(h:Xo_ r=0):r.key.length<=64/\Ii_ r.want=0:=by
 unfold Xo_ at h
 split at h
 . cases h
 . split at h
   . split at h
     . rename_i q;exact (q h).elim
     . rename_i q;exact⟨keyE_len (by simpa using q),h⟩
   . split at h
     . rename_i q;exact (q h).elim
     . rename_i q;exact⟨keyE_len (by simpa using q),h⟩
theorem shopOf_mem{l:List W_}{n:Bs}(h:(H1_ l n).isSome=true):∃ s∈l,s.name=n:=by
 obtain⟨s,hs⟩:=Option.isSome_iff_exists.1 h;exact⟨s,List.mem_of_find?_eq_some hs,by simpa using List.find?_some hs⟩
theorem Qp_{s:I_}{k:Int}{l:As_}(h:RoB s):RoB (A5_ s k l):=λr hr=>by
 have hr:r∈s.rows.set k.toNat ⟨(gt s.rows k.toNat).q,l⟩:=hr
 by_cases q:k.toNat<s.rows.length
 . rcases CE hr with e|e
   . exact h r e
   . rw[e];exact h (gt s.rows k.toNat) (A2 (getG q))
 . rw[E4 rV] at hr;exact h r hr
theorem rob_wake:∀ (t:List Hh_) (k:Nat) (x:I_),RoB x->RoB (Ci_ t k x)
 |[],_,_,h=>h
 |_::t,k,_,h=>rob_wake t (k+1) _ (Qp_ h)
theorem cloB:Clo BkB RoB NoB where
 ma:=λ{b x} hq h=>by
   unfold Dd_
   let Q:Az_×Int->Prop:=λr=>BkB r.1
   refine bt (P:=Q) (λ_=>h) λe=>bt (P:=Q) (λ_=>h) λ_=>bt (P:=Q) (λ_=>h) λ_=>bt (P:=Q) (λ_=>h) λ_=>⟨λs hs=>?_,h.2⟩
   rcases mem_one hs with q|q
   . exact h.1 s q
   . rw[q];exact⟨by simpa using e,hq⟩
 bd:=λ{b x} hw h=>by
   unfold B0_ lt
   let Q:Az_×Int->Prop:=λr=>BkB r.1
   refine bt (P:=Q) (λ_=>h) λe1=>bt (P:=Q) (λ_=>h) λ_=>bt (P:=Q) (λ_=>h) λe2=>bt (P:=Q) (λ_=>h) λe3=>bt (P:=Q) (λ_=>h) λ_=>bt (P:=Q) (λ_=>h) λ_=>⟨h.1,λy hy=>?_⟩
   rcases mem_one hy with q|q
   . exact h.2 y q
   . rw[q]
     obtain⟨s,hs,hn⟩:=shopOf_mem (by simpa using e1)
     have hr:=ruleE_f (by simpa using e3)
     exact⟨by rw[<- hn];exact (shopE_f (h.1 s hs).1).1,by simpa using e2,hr.1,hr.2,hw⟩
 dp:=λ{b n} h=>by
   unfold Fb_ lt
   let Q:Az_×Int->Prop:=λr=>BkB r.1
   refine bt (P:=Q) (λ_=>h) λ_=>⟨λs hs=>h.1 s (mem_td hs),λy hy=>?_⟩
   rcases U7_ _ _ _ y hy with q|q
   . cases q
   . exact h.2 y q
 ub:=λ{b x} h=>by
   unfold Ee_ lt
   let Q:Az_×Int->Prop:=λr=>BkB r.1
   exact bt (P:=Q) (λ_=>h) λ_=>⟨h.1,λy hy=>h.2 y (mem_td hy)⟩
 fg:=λ{b q} h=>⟨h.1,λy hy=>by
   rcases U7_ _ _ _ y hy with q|q
   . cases q
   . exact h.2 y q⟩
 km:=λ{k q} h=>by
   unfold Ba_ lt
   let Q:I_×Int->Prop:=λr=>RoB r.1
   refine bt (P:=Q) (λ_=>h) λe=>bt (P:=Q) (λ_=>h) λ_=>bt (P:=Q) (λ_=>h) λ_=>bt (P:=Q) (λ_=>h) λ_=>λr hr=>?_
   rcases mem_one hr with q|q
   . exact h r q
   . rw[q];simpa using e
 kd:=λ{k n} h=>by
   unfold C4_ lt
   let Q:I_×Int->Prop:=λr=>RoB r.1
   exact bt (P:=Q) (λ_=>h) λ_=>λr hr=>h r (mem_td hr)
 kp:=λ{k n m} _ h=>by
   unfold A8_ lt
   let Q:I_×Int×Mail×Int->Prop:=λr=>RoB r.1
   refine bt (P:=Q) (λ_=>h) λ_=>bt (P:=Q) (λ_=>h) λ_=>bt (P:=Q) (λ_=>h) λ_=>?_
   refine lp2E (P:=Q) (λ_=>True) ?_ λx x1 _=>?_
   . exact bt (P:=LoP _ _) (λ_=>bt (P:=LoP _ _) (λ_=>h) λ_=>trivial) λ_=>trivial
   . exact bt (P:=Q) (λ_=>h) λ_=>bt (P:=Q) (λ_=>h) λ_=>λr hr=>Qp_ (k:=An_ k n) h r hr
 kl:=λ{k n} h=>by
   unfold Ct_ lt
   let Q:I_×V_×Bool->Prop:=λr=>RoB r.1
   exact zH
 kr:=λ{k n i} h=>by
   unfold At_ lt
   let Q:I_×V_×Int->Prop:=λr=>RoB r.1
   exact zH
 kb:=λ{k n i} h=>by
   unfold Dp_ lt
   let Q:I_×Int->Prop:=λr=>RoB r.1
   exact zH
 ks:=λ{k p m} h=>by
   unfold Cf_ lt
   let Q:I_×Int->Prop:=λr=>RoB r.1
   exact bt (P:=Q) (λ_=>h) λ_=>bt (P:=Q) (λ_=>h) λ_=>bt (P:=Q) (λ_=>h) λ_=>h
 kw:=λ{k} _ h=>rob_wake _ _ _ h
 na:=λ{n x} hk h=>by
   unfold D7_
   let Q:By_×Int->Prop:=λr=>NoB r.1
   refine bt (P:=Q) (λ_=>h) λe=>bt (P:=Q) (λ_=>h) λ_=>λy hy=>?_
   simp only[decide_eq_false_iff_not] at e
   rcases mem_one (AS hy) with q|q
   . exact h y q
   . rw[q];exact⟨by omega,hk⟩
def StB(s:D_):Prop:=Cl BkB RoB NoB s
theorem newB(p:F_)(k:Int):StB (Bu_ p k):=⟨⟨(λ_ h=>by cases h),λ_ h=>by cases h⟩,(λ_ h=>by cases h),λ_ h=>by cases h⟩
def U64(t:Int):Prop:=0<=t/\t<=18446744073709551615
structure Clw(T:Int->Prop)(W:Mail->Prop)(K:I_->Prop)(M:By_->Prop):Prop where
 kp:∀ {k n m},StkOk k->W m->K k->K (A8_ k n m).1/\W (A8_ k n m).2.2.1
 kl:∀ {k n},K k->K (Ct_ k n).1
 kr:∀ {k n i},K k->K (At_ k n i).1/\W (At_ k n i).2.1.Ad_
 kb:∀ {k n i},K k->K (Dp_ k n i).1
 ks:∀ {k p m},W m->K k->K (Cf_ k p m).1
 kw:∀ {k},StkOk k->K k->K (Ff_ k)
 kt:∀ {k t},K k->W (Ar_ k t).2.1
 na:∀ {n x},T x.tick->0<=x.kind/\x.kind<=255->M n->M (D7_ n x).1
 wd:∀ {m t l},W m->W ⟨0,m.Bl_,m.key,m.head,m.body,Lv_ m.due t l,m.hops⟩
 wr:∀ {m},W m->W ⟨0,m.Bl_,m.key,m.head,m.body,m.due,m.hops⟩
 wb:∀ {m s},W m->W ⟨m.id,s,m.key,m.head,m.body,0,IntKind.wrap .u8 (m.hops+1)⟩
 wp:∀ {m},W m->W ⟨m.id,m.Bl_,m.key,m.head,m.body,m.due,IntKind.wrap .u8 (m.hops+1)⟩
def Sp(a:A8_SpentR):Prop:=∀ i,i<8->U64 (A8.get a i).round
theorem round_u{p:F_}{t:Int}(h:U64 t):U64 (My_ p t):=by
 unfold My_;obtain⟨h1,h2⟩:=h;have h3:0<=t/(p.slots.length:Int):=Int.ediv_nonneg h1 rV;have h4:t/(p.slots.length:Int)<=t:=Int.ediv_le_self _ h1;exact⟨h3,by omega⟩
theorem Sp.all{a:A8_SpentR}(h:Sp a)(k:Nat):U64 (A8.get a k).round:=by
 by_cases q:k<8;exact h k q;obtain⟨n,rfl⟩:∃ n,k=n+8:=⟨_,(FC rV).symm⟩;exact h 7 rX
theorem Sp.set{a:A8_SpentR}(h:Sp a){x:Aj_}(hx:U64 x.round)(k:Nat):Sp (A8.set a x k):=by
 have key:∀ k,k<8->Sp (A8.set a x k):=λk hk i hi=>by
   rw[A8.get_set _ _ _ _ hk hi]
   by_cases q:i=k
   . rw[if_pos q];exact hx
   . rw[if_neg q];exact h i hi
 by_cases q:k<8;exact key k q;obtain⟨n,rfl⟩:∃ n,k=n+8:=⟨_,(FC rV).symm⟩;exact key 7 rX
def seenW(s:D_)(d:G_):D_:=⟨⟨s.x.book,s.x.E_,s.x.notes,A16.set s.x.seen d.number d.frm.toNat,s.x.spent⟩,s.U_,s.place⟩
structure Kw(T:Int->Prop)(K:I_->Prop)(M:By_->Prop)(s0 s:D_):Prop where
 po:s.U_=s0.U_
 pl:s.place=s0.place
 bo:s.x.book=s0.x.book
 k:K s.x.E_
 n:M s.x.notes
 se:s.x.seen=s0.x.seen
 sp:(∀ t,T t->U64 t)->Sp s0.x.spent->Sp s.x.spent
section
variable{T:Int->Prop}{W:Mail->Prop}{K:I_->Prop}{M:By_->Prop}(C:Clw T W K M){s0 s:D_}
include C
omit C in
theorem Kw.E_(h:Kw T K M s0 s){k:I_}(hk:K k):Kw T K M s0 ⟨⟨s.x.book,k,s.x.notes,s.x.seen,s.x.spent⟩,s.U_,s.place⟩:=⟨h.po,h.pl,h.bo,hk,h.n,h.se,h.sp⟩
theorem Kw.note(h:Kw T K M s0 s){t k:Int}{x:Bs}(ht:T t)(hk:0<=k/\k<=255):Kw T K M s0 (Cu_ s t k x):=⟨h.po,h.pl,h.bo,h.k,C.na ht hk h.n,h.se,h.sp⟩
theorem Kw.spend(h:Kw T K M s0 s){to' t:Int}(ht:T t):Kw T K M s0 (C8_ s to' t).1:=by
 unfold C8_ lt;let Q:D_×Int->Prop:=λr=>Kw T K M s0 r.1;refine bt (P:=Q) (λ_=>h) λ_=>?_;refine lt1E (P:=Q) (λx:Aj_=>(∀ t,T t->U64 t)->Sp s.x.spent->U64 x.round) ?_ λx hx=>bt (P:=Q) (λ_=>h) λ_=>⟨h.po,h.pl,h.bo,h.k,C.na ht ⟨(by decide :(0:Int)<=2),(by decide :(2:Int)<=255)⟩ h.n,h.se,λu q=>Sp.set (h.sp u q) (x:=⟨x.round,x.count+1⟩) (hx u (h.sp u q)) _⟩;exact bt (P:=λx:Aj_=>(∀ t,T t->U64 t)->Sp s.x.spent->U64 x.round) (λ_ u _=>round_u (u _ ht)) λ_ _ q=>q.all _
def GnW(T:Int->Prop)(W:Mail->Prop)(K:I_->Prop)(M:By_->Prop)(s0:D_)(r:D_×List H2_×Int×Int):Prop:=Kw T K M s0 r.1/\∀ g∈r.2.1,W g.Ad_
section
variable{m:Mail}{tick:Int}{r:List Bs×List Bs×Int}
theorem send1_w{gone:List H2_}(ht:T tick)(hm:W m)(hs:Kw T K M s0 s)(hg:∀ g∈gone,W g.Ad_):∀ (t:List Bs) (n:Int) (x:D_),Kw T K M s0 x->GnW T W K M s0 (Bg_ s m tick r gone t n x)
 |[],n,x,hx=>⟨hx,hg⟩
 |q::t,n,x,hx=>by
   unfold Bg_ lt
   have h0:∀ e,GnW T W K M s0 (s,[],0,e):=λe=>⟨hs,(λ_ h=>by cases h)⟩
   refine lp1E (P:=GnW T W K M s0) (Kw T K M s0) ?_ λy hy=>?_
   . refine bt (P:=LoP _ _) (λ_=>?_) λ_=>hx
     exact bt (P:=LoP _ _) (λ_=>h0 _) λ_=>Kw.spend C hx ht
   . exact bt (P:=GnW T W K M s0) (λ_=>h0 _) λ_=>send1_w ht hm hs hg t _ _ (hy.E_ (C.ks (C.wr hm) hy.k))
theorem send0_w(ht:T tick)(hm:W m)(hs:Kw T K M s0 s)(h0:0<=m.hops):∀ (t:List Bs) (gone:List H2_) (n:Int) (x:D_),(∀ g∈gone,W g.Ad_)->StOk x->Kw T K M s0 x->GnW T W K M s0 (Ao_ s m tick r t gone n x)
 |[],gone,n,x,hg,_,hx=>by
   unfold Ao_
   exact send1_w C ht hm hs hg _ _ _ hx
 |q::t,gone,n,x,hg,ho,hx=>by
   unfold Ao_ lt
   refine bt (P:=GnW T W K M s0) (λ_=>send0_w ht hm hs h0 t _ _ x hg ho hx) λ_=>?_
   have hw:=C.wd (t:=tick) (l:=(Ax_ x.x.E_ q).1.life) hm
   generalize Lv_ m.due tick (Ax_ x.x.E_ q).1.life=due at hw ⊢
   have hp:=(kput_ok (s:=x.x.E_) (n:=q) (m:=⟨0,m.Bl_,m.key,m.head,m.body,due,m.hops⟩) ho.stk h0).1
   have hk:=C.kp (n:=q) (m:=⟨0,m.Bl_,m.key,m.head,m.body,due,m.hops⟩) ho.stk hw hx.k
   refine bt (P:=GnW T W K M s0) (λ_=>⟨hs,(λ_ h=>by cases h)⟩) λ_=>?_
   refine bt (P:=GnW T W K M s0) (λ_=>send0_w ht hm hs h0 t _ _ _ (λg q=>?_) (Ca_ ho hp) (hx.E_ hk.1)) λ_=>send0_w ht hm hs h0 t _ _ _ hg (Ca_ ho hp) (hx.E_ hk.1)
   rcases List.mem_append.1 q with q|q
   . exact hg g q
   . rw[List.mem_singleton.1 q];exact hk.2
theorem send_w(ht:T tick)(ho:StOk s)(hs:Kw T K M s0 s)(hm:W m)(h0:0<=m.hops):GnW T W K M s0 (Ah_ s m tick):=by
 unfold Ah_ lt;exact bt (P:=GnW T W K M s0) (λ_=>⟨hs,(λ_ h=>by cases h)⟩) λ_=>send0_w C ht hm hs h0 _ _ _ _ (λ_ h=>by cases h) ho hs
end
theorem Zl_{tick:Int}(ht:T tick):∀ (f:Nat) (gone:List H2_) (lost:Int) (x:D_),Uo_ gone lost x->wtk x.x.E_+wto gone<f->(∀ g∈gone,W g.Ad_)->Kw T K M s0 x->Kw T K M s0 (Ck_ tick f gone lost x).1
 |0,_,_,_,_,h,_,_=>by omega
 |f+1,gone,lost,x,hI,hf,hg,hx=>by
   unfold Ck_ lt
   let Q:D_×Int->Prop:=λr=>Kw T K M s0 r.1
   refine bt (P:=Q) (λe=>?_) λ_=>hx
   have hn:0<gone.length:=by simpa using e
   have hd:∀ g∈gone.drop 1,W g.Ad_:=λg q=>hg g (AS q)
   refine bt (P:=Q) (λ_=>Zl_ ht f _ _ _ (Tk_ hI hn) (Vl_ hn hf) hd hx) λ_=>?_
   have hm:MlOk (gt gone 0).Ad_:=hI.2.1 _ (Mp_ hn)
   refine bt (P:=Q) (λ_=>?_) λe4=>?_
   . have h:=Lb_ (s:=x) (t:=tick) (k:=1) (x:=(gt gone 0).queue) hI.1
     exact Zl_ ht f _ _ _ (Tl_ hI h.1 h.2 hn) (Yk_ h.2 hn hf) hd (Kw.note C hx ht rX)
   . simp only[AG,decide_eq_false_iff_not,AX,decide_eq_true_eq] at e4
     have hs:=L1_ (s:=x) (m:=⟨(M_ (gt gone 0).Ad_).id,(Ax_ x.x.E_ (gt gone 0).queue).1.dead,(M_ (gt gone 0).Ad_).key,(M_ (gt gone 0).Ad_).head,(M_ (gt gone 0).Ad_).body,0,A0 .u8 ((M_ (gt gone 0).Ad_).hops+1)⟩) (tick:=tick) hI.1 (Lg_ _)
     have hw:=send_w C (tick:=tick) ht hI.1 hx (C.wb (m:=M_ (gt gone 0).Ad_) (s:=(Ax_ x.x.E_ (gt gone 0).queue).1.dead) (hg _ (Mp_ hn))) (Lg_ _)
     refine Zl_ ht f _ _ _ (Tm_ hI hs.1 hs.2.1 hn Z hm e4.1 hs.2.2 Z e4.2) (Vm_ hn hf Z hm e4.1 hs.2.2 Z e4.2) (λg q=>?_) hw.1
     rcases List.mem_append.1 (AS q) with q|q
     . exact hg g q
     . exact hw.2 g q
theorem bury_v{gone:List H2_}{tick:Int}(ht:T tick)(h:StOk s)(hg:gone.length<=600/\∀ g∈gone,MlOk g.Ad_)(hw:∀ g∈gone,W g.Ad_)(hs:Kw T K M s0 s):Kw T K M s0 (Cj_ s gone tick).1:=
 Zl_ C ht _ gone 0 s (buryI0 h hg) (BN _) hw hs
section
variable{d:G_}
theorem settle_w(ht:T d.tick)(h:StOk s)(hs:Kw T K M s0 s):Kw T K M s0 (Cv_ s d).1:=by
 unfold Cv_ lt;let Q:D_×Af_×Int->Prop:=λr=>Kw T K M s0 r.1;refine bt (P:=Q) (λ_=>hs) λ_=>?_;refine bt (P:=Q) (λ_=>hs.E_ (C.kb hs.k)) λ_=>?_;have hr:=Kf_ (n:=d.name) (id:=d.id) h.stk;have hk:=C.kr (n:=d.name) (i:=d.id) hs.k;refine bt (P:=Q) (λ_=>bury_v C ht (Ca_ h hr.1) ⟨by simp,λg hg=>?_⟩ (λg hg=>?_) (hs.E_ hk.1)) λ_=>hs.E_ hk.1;exact tF;rw[List.mem_singleton.1 hg];exact hk.2
theorem late_w0{t:Int}(ht:T t):∀ (f:Nat) (gone:List H2_) (x:D_),StOk x->(∀ g∈gone,MlOk g.Ad_)->(∀ g∈gone,W g.Ad_)->gone.length+nik x.x.E_<=512->nik x.x.E_<f->Kw T K M s0 x->Kw T K M s0 (Di_ t f gone x).1
 |0,_,_,_,_,_,_,h,_=>by omega
 |f+1,gone,x,h,hg,hw,hl,hf,hs=>by
   unfold Di_ lt
   let Q:D_×Af_->Prop:=λr=>Kw T K M s0 r.1
   refine bt (P:=Q) (λ_=>bury_v C ht h ⟨by omega,hg⟩ hw hs) λe=>?_
   have e':(Ar_ x.x.E_ t).2.2=true:=by simpa using e
   have hr:=Kf_ (n:=(Ar_ x.x.E_ t).1) (id:=(Ar_ x.x.E_ t).2.1.id) h.stk
   refine late_w0 ht f _ _ (Ca_ h hr.1) (λg q=>?_) (λg q=>?_) (late_in h.stk Z e' Z hl) (late_mu h.stk Z e' Z hf) (hs.E_ (C.kr hs.k).1)
   . rcases List.mem_append.1 q with q|q
     . exact hg g q
     . exact tG
   . rcases List.mem_append.1 q with q|q
     . exact hw g q
     . rw[List.mem_singleton.1 q];exact C.kt hs.k
theorem late_w{t:Int}(ht:T t)(h:StOk s)(hs:Kw T K M s0 s):Kw T K M s0 (F0_ s t).1:=
 late_w0 C ht _ [] s h (λ_ h=>by cases h) (λ_ h=>by cases h) oD (BN _) hs
theorem put_w(ht:T d.tick)(h:StOk s)(h0:0<=d.Ad_.hops)(hm:W d.Ad_)(hs:Kw T K M s0 s):Kw T K M s0 (D8_ s d).1:=by
 unfold D8_ lt;let Q:D_×Af_×Int->Prop:=λr=>Kw T K M s0 r.1;have h1:=L1_ (s:=s) (m:=M_ d.Ad_) (tick:=d.tick) h h0;have hl:=Mb_ (s:=s) (m:=M_ d.Ad_) (tick:=d.tick) h;have hw:=send_w C (m:=M_ d.Ad_) (tick:=d.tick) ht h hs hm h0;exact bt (P:=Q) (λ_=>hs) λ_=>bury_v C ht h1.1 ⟨by omega,h1.2.1⟩ hw.2 hw.1
theorem lend_w(hs:Kw T K M s0 s):Kw T K M s0 (C6_ s d).1:=by
 unfold C6_ lt;let Q:D_×Af_×Int->Prop:=λr=>Kw T K M s0 r.1;refine bt (P:=Q) (λ_=>hs) λ_=>?_;exact bt (P:=Q) (λ_=>hs) λ_=>hs.E_ (C.kl hs.k)
theorem pull_w(ht:T d.tick)(h:StOk s)(hm:W d.Ad_)(hs:Kw T K M s s):Kw T K M s (C7_ s d).1\/Kw T K M (seenW s d) (C7_ s d).1:=by
 unfold C7_ lt;let Q:D_×Af_×Int->Prop:=λr=>Kw T K M s r.1\/Kw T K M (seenW s d) r.1;refine bt (P:=Q) (λ_=> .inl hs) λ_=>bt (P:=Q) (λ_=> .inl hs) λ_=>bt (P:=Q) (λ_=> .inl hs) λ_=>?_;let I:D_->Prop:=λx=>StOk x/\Kw T K M (seenW s d) x;have h2:Kw T K M (seenW s d) (⟨(⟨s.x.book,s.x.E_,s.x.notes,(A16.set s.x.seen d.number ((d.frm).toNat)),s.x.spent⟩:Ac_),s.U_,s.place⟩:D_):=⟨rfl,rfl,rfl,hs.k,hs.n,rfl,λ_=>id⟩;refine lt1E (P:=Q) I ?_ λx hx=>?_;exact bt (P:=I) (λ_=>⟨(Lb_ (D4_ h)).1,Kw.note C h2 ht rX⟩) λ_=>⟨D4_ h,h2⟩;refine bt (P:=Q) (λ_=> .inr (Kw.note C hx.2 ht rX)) λ_=>?_;have h1:=L1_ (s:=x) (m:=⟨(M_ d.Ad_).id,(M_ d.Ad_).Bl_,(M_ d.Ad_).key,(M_ d.Ad_).head,(M_ d.Ad_).body,(M_ d.Ad_).due,A0 .u8 ((M_ d.Ad_).hops+1)⟩) (tick:=d.tick) hx.1 (Lg_ _);have hl:=Mb_ (s:=x) (m:=⟨(M_ d.Ad_).id,(M_ d.Ad_).Bl_,(M_ d.Ad_).key,(M_ d.Ad_).head,(M_ d.Ad_).body,(M_ d.Ad_).due,A0 .u8 ((M_ d.Ad_).hops+1)⟩) (tick:=d.tick) hx.1;have hw:=send_w C (tick:=d.tick) ht hx.1 hx.2 (C.wp (m:=M_ d.Ad_) hm) (Lg_ _);exact .inr (bury_v C ht h1.1 ⟨by omega,h1.2.1⟩ hw.2 hw.1)
theorem do_w(ht:T d.tick)(hc:0<=d.code/\d.code<=255)(h:StOk s)(h0:0<=d.Ad_.hops)(hm:W d.Ad_)(hs:Kw T K M s s):(K_ s d).1=s\/(Kw T K M s (K_ s d).1\/Kw T K M (seenW s d) (K_ s d).1)\/(K_ s d).1=(B2_ s d).1\/(K_ s d).1=(Cg_ s d).1:=by
 unfold K_ lt;let Q:D_×Af_×Int->Prop:=λr=>r.1=s\/(Kw T K M s r.1\/Kw T K M (seenW s d) r.1)\/r.1=(B2_ s d).1\/r.1=(Cg_ s d).1;refine bt (P:=Q) (λe=> .inl Z) λ_=>?_;let I:Int×D_×Af_->Prop:=λr=>(Kw T K M s r.2.1\/Kw T K M (seenW s d) r.2.1)\/r.2.1=(B2_ s d).1\/r.2.1=(Cg_ s d).1;refine lt3E (P:=Q) I ?_ λa b c hb=>bt (P:=Q) (λe=> .inl Z) λe=> .inr hb;refine lt1E (P:=I) (λv:Bool=>True) U λv hv=>?_;refine bt (P:=I) (λe=> .inr (.inl Z)) λ_=>bt (P:=I) (λe=> .inl (.inl (put_w C ht h h0 hm hs))) λ_=>bt (P:=I) (λe=> .inl (.inl (lend_w C hs))) λ_=>bt (P:=I) (λe=> .inl (.inl (settle_w C ht h hs))) λ_=>bt (P:=I) (λe=> .inl (.inl (late_w C ht h hs))) λ_=>bt (P:=I) (λe=> .inl (pull_w C ht h hm hs)) λ_=>?_;refine bt (P:=I) (λ_=> .inl (.inl (Kw.note C (s:=⟨⟨s.x.book,Ff_ s.x.E_,s.x.notes,s.x.seen,s.x.spent⟩,s.U_,s.place⟩) (hs.E_ (C.kw h.stk hs.k)) ht rX))) λ_=>bt (P:=I) (λ_=> .inl (.inl ⟨rfl,rfl,rfl,hs.k,C.na ht hc hs.n,rfl,λ_=>id⟩)) λ_=> .inr (.inr Z)
end
end
def ShB(s:D_)(d:G_)(b:Az_):Prop:=b=s.x.book\/b=(Dd_ s.x.book d.Bl_).1\/b=(Fb_ s.x.book d.name).1\/b=(Ee_ s.x.book d.bind).1\/b=(B0_ s.x.book d.bind).1
theorem shops_x(s:D_)(d:G_):∃ b,(Cg_ s d).1=⟨⟨b,s.x.E_,s.x.notes,s.x.seen,s.x.spent⟩,s.U_,s.place⟩/\ShB s d b:=by
 unfold Cg_ lt;let Q:D_×Int->Prop:=λr=>∃ b,r.1=⟨⟨b,s.x.E_,s.x.notes,s.x.seen,s.x.spent⟩,s.U_,s.place⟩/\ShB s d b;have hn:∀ {e},Q (s,e):=⟨_,rfl, .inl Z⟩;refine bt (P:=Q) (λ_=>?_) λ_=>?_;refine lp0E (P:=Q) (λ_=>True) ?_ λ_=>⟨_,rfl, .inr (.inl Z)⟩;refine bt (P:=LoP _ _) (λ_=>?_) λ_=>trivial;exact wE;refine bt (P:=Q) (λ_=>⟨_,rfl, .inr (.inr (.inl Z))⟩) λ_=>bt (P:=Q) (λ_=>⟨_,rfl, .inr (.inr (.inr (.inl Z)))⟩) λ_=>?_;refine lp0E (P:=Q) (λ_=>True) ?_ λ_=>⟨_,rfl, .inr (.inr (.inr (.inr Z)))⟩;refine lt1E (P:=LoP _ _) (λ_=>True) U λv _=>?_;exact wE
theorem queues_x(s:D_)(d:G_):∃ b k,(B2_ s d).1=⟨⟨b,k,s.x.notes,s.x.seen,s.x.spent⟩,s.U_,s.place⟩/\(k=(Ba_ s.x.E_ d.queue).1\/k=(C4_ s.x.E_ d.name).1)/\(b=s.x.book\/b=Fj_ s.x.book d.name):=by
 unfold B2_ lt;let Q:D_×Int->Prop:=λr=>∃ b k,r.1=⟨⟨b,k,s.x.notes,s.x.seen,s.x.spent⟩,s.U_,s.place⟩/\(k=(Ba_ s.x.E_ d.queue).1\/k=(C4_ s.x.E_ d.name).1)/\(b=s.x.book\/b=Fj_ s.x.book d.name);exact bt (P:=Q) (λ_=>⟨_,_,rfl, .inl Z, .inl Z⟩) λ_=>bt (P:=Q) (λ_=>⟨_,_,rfl, .inr Z, .inr Z⟩) λ_=>⟨_,_,rfl, .inr Z, .inl Z⟩
theorem cloBw:Clw (λ_=>True) (λ_=>True) RoB NoB where
 kp:=λhs _ h=>⟨cloB.kp hs h,trivial⟩
 kl:=cloB.kl
 kr:=λh=>⟨cloB.kr h,trivial⟩
 kb:=cloB.kb
 ks:=λ_ h=>cloB.ks h
 kw:=cloB.kw
 kt:=λ_=>trivial
 na:=λ_ hk h=>cloB.na hk h
 wd:=λh=>h
 wr:=λh=>h
 wb:=λ_=>trivial
 wp:=λ_=>trivial
theorem doB{s:D_}{d:G_}(hc:0<=d.code/\d.code<=255)(h:StOk s)(h0:0<=d.Ad_.hops)(hq:0<=d.Bl_.sort)(hw:∀ p∈d.bind.want,p.wf)(hs:StB s):StB (K_ s d).1:=by
 obtain⟨h1,h2,h3⟩:=hs;have key:∀ s0 t:D_,s0.x.book=s.x.book->Kw (λ_=>True) RoB NoB s0 t->StB t:=λs0 t e k=>⟨by rw[k.bo,e];exact h1,k.k,k.n⟩
 rcases do_w cloBw trivial hc h h0 trivial (⟨rfl,rfl,rfl,h2,h3,rfl,λ_=>id⟩:Kw (λ_=>True) RoB NoB s s) with e|(e|e)|e|e
 rw[e];exact⟨h1,h2,h3⟩;exact key _ _ Z e;exact key (seenW s d) _ Z e;obtain⟨b,k,e2,e3,e4⟩:=queues_x s d;rw[e,e2];refine⟨?_,?_,h3⟩
 . show BkB b
   rcases e4 with rfl|rfl
   exact h1
   exact cloB.fg h1
 . show RoB k
   rcases e3 with rfl|rfl
   exact cloB.km h2
   exact cloB.kd h2
 . obtain⟨b,e2,e3⟩:=shops_x s d
   rw[e,e2]
   refine⟨?_,h2,h3⟩
   show BkB b
   rcases e3 with rfl|rfl|rfl|rfl|rfl
   exact h1
   exact cloB.ma hq h1
   exact cloB.dp h1
   exact cloB.ub h1
   exact cloB.bd hw h1
theorem doPl{s:D_}{d:G_}(hc:0<=d.code/\d.code<=255)(h:StOk s)(h0:0<=d.Ad_.hops)(hs:StB s):(K_ s d).1.U_=s.U_/\(K_ s d).1.place=s.place:=by
 obtain⟨h1,h2,h3⟩:=hs
 rcases do_w cloBw trivial hc h h0 trivial (⟨rfl,rfl,rfl,h2,h3,rfl,λ_=>id⟩:Kw (λ_=>True) RoB NoB s s) with e|(e|e)|e|e
 rw[e];exact⟨rfl,rfl⟩;exact⟨e.po,e.pl⟩;exact⟨e.po,e.pl⟩;obtain⟨b,k,e2,e3,e4⟩:=queues_x s d;rw[e,e2];exact⟨rfl,rfl⟩;obtain⟨b,e2,e3⟩:=shops_x s d;rw[e,e2];exact⟨rfl,rfl⟩
def DkI(d:Bw_):Prop:=d.on=true/\d.armed=false/\0<=d.El_/\d.lasts.length=7680/\DwOk d
theorem blk60{l:Dy_}(h:l.d.lasts.length=7680):L_ l=60:=by
 unfold L_ A0_ lt;rw[h];decide
theorem dwrite_i{d:Bw_}(h:DkI d){at_:Int}(h0:0<=at_)(h1:at_<120){s:Bs}(hs:s.length<=64):(Am_ d at_ s).1=0/\DkI (Am_ d at_ s).2:=by
 have hc:=dcheck_0 (d:=d) (at_:=at_) h.1 h0 (by rw[h.2.2.2.1];omega);have hn:¬(64:Int)<(s.length:Int):=by omega
 have ho:=Se_ h.2.2.2.2 at_ s;unfold Am_ lt at ho ⊢;simp only[hc,hn,decide_true,decide_false,A5,cond_false] at ho ⊢;exact⟨trivial,h.1,h.2.1,h.2.2.1,h.2.2.2.1,ho⟩
theorem dsync_i{d:Bw_}(h:DkI d):(Cx_ d).1=0/\DkI (Cx_ d).2/\(Cx_ d).2.waits=[]:=by
 obtain⟨h1,h2,h3,h4,h5⟩:=h;have hf:=dsync_f h5 h3;unfold Cx_ lt at hf ⊢;simp only[h1,h2,A5,Bool.false_and,cond_false] at hf ⊢;have h':DwOk (⟨d.lasts,d.waits,d.on,d.armed,(max 0 (d.El_-1)),d.cut⟩:Bw_):=h5;have :=ddo_f h' (Hi_ (⟨d.lasts,d.waits,d.on,d.armed,(max 0 (d.El_-1)),d.cut⟩:Bw_));simp only[h1,h2] at this;refine⟨trivial,⟨this.2.2.1,this.2.2.2.1,hf.2.2.2.1,?_,hf.2.1⟩,this.2.1⟩;rw[hf.1];exact h4
theorem put_l0_i(l:Dy_)(Bj_ block least:Int)(s:Bs)(ha:Bj_=0\/Bj_=1)(hb:0<=block)(hm:block+(max least ((((s.length:Int)+64)-1)/64))<=60):∀ (f v:Nat) (dk:Bw_),((max least ((((s.length:Int)+64)-1)/64))-(v:Int)).toNat<f->DkI dk->∃ dk',Hg_ l Bj_ block least s f v dk=(0,(⟨dk',l.Bj_,l.gen,l.ready,l.broken,l.done,l.waits⟩:Dy_))/\DkI dk'/\dk'.waits=[]
 |0,_,_,h,_=>by omega
 |f+1,v,dk,h,hd=>by
   rw[Hg_.eq_2]
   unfold lt
   by_cases hc:(v:Int)<(max least ((((s.length:Int)+64)-1)/64))
   . simp only[hc,decide_true,cond_true]
     have e60:=blk60 (l:=(⟨dk,l.Bj_,l.gen,l.ready,l.broken,l.done,l.waits⟩:Dy_)) hd.2.2.2.1
     rw[e60]
     generalize hY:((s++(Go.Lib.repeatL [0] ((((max least ((((s.length:Int)+64)-1)/64))*64)-(s.length:Int))).toNat)).drop (v*64)).take (((v+1)*64)-(v*64))=Y
     have hl:Y.length<=64:=by rw[<- hY,List.length_take];omega
     have hw:=dwrite_i hd (at_:=((Bj_*60)+block)+(v:Int)) (by rcases ha with rfl|rfl<;>omega) (by rcases ha with rfl|rfl<;>omega) hl
     simp only[hw.1,decide_true,A5,cond_false]
     exact put_l0_i l Bj_ block least s ha hb hm f (v+1) _ rV hw.2
   . simp only[hc,decide_false,cond_false]
     have hs:=dsync_i hd
     simp only[hs.1,decide_true,A5,cond_false]
     exact⟨_,rfl,hs.2.1,hs.2.2⟩
theorem put_i{l:Dy_}{Bj_ block least:Int}{s:Bs}(ha:Bj_=0\/Bj_=1)(hb:0<=block)(hm:block+(max least ((((s.length:Int)+64)-1)/64))<=60)(hd:DkI l.d):∃ dk',Ap_ l Bj_ block least s=(0,(⟨dk',l.Bj_,l.gen,l.ready,l.broken,l.done,l.waits⟩:Dy_))/\DkI dk'/\dk'.waits=[]:=
 put_l0_i l Bj_ block least s ha hb hm _ 0 l.d qB hd
theorem row60{l:Dy_}(h:l.d.lasts.length=7680):Fh_ l=3776:=by
 have :=(lrow_f l).1;rw[blk60 h] at this;rw[this];decide
theorem three_i{l:Dy_}{a:Int}{s:Bs}(hd:DkI l.d)(ha:a=0\/a=1)(hs:s.length<=3776)(g:Int):∃ d1 d2 d3,Ap_ l a 0 1 []=(0,(⟨d1,l.Bj_,l.gen,l.ready,l.broken,l.done,l.waits⟩:Dy_))/\DkI d1/\Ap_ (⟨d1,l.Bj_,l.gen,l.ready,l.broken,l.done,l.waits⟩:Dy_) a 1 ((L_ (⟨d1,l.Bj_,l.gen,l.ready,l.broken,l.done,l.waits⟩:Dy_))-1) s=(0,(⟨d2,l.Bj_,l.gen,l.ready,l.broken,l.done,l.waits⟩:Dy_))/\DkI d2/\Ap_ (⟨d2,l.Bj_,l.gen,l.ready,l.broken,l.done,l.waits⟩:Dy_) a 0 1 (Gn_ g)=(0,(⟨d3,l.Bj_,l.gen,l.ready,l.broken,l.done,l.waits⟩:Dy_))/\DkI d3/\d3.waits=[]:=by
 obtain⟨d1,e1,h1,_⟩:=put_i (l:=l) (Bj_:=a) (block:=0) (least:=1) (s:=[]) ha rV (by simp only[A6];omega) hd;have hb:=blk60 (l:=(⟨d1,l.Bj_,l.gen,l.ready,l.broken,l.done,l.waits⟩:Dy_)) h1.2.2.2.1;obtain⟨d2,e2,h2,_⟩:=put_i (l:=(⟨d1,l.Bj_,l.gen,l.ready,l.broken,l.done,l.waits⟩:Dy_)) (Bj_:=a) (block:=1) (least:=(L_ (⟨d1,l.Bj_,l.gen,l.ready,l.broken,l.done,l.waits⟩:Dy_))-1) (s:=s) ha rV (by rw[hb];omega) h1;have hh:=U4_ g;obtain⟨d3,e3,h3,w3⟩:=put_i (l:=(⟨d2,l.Bj_,l.gen,l.ready,l.broken,l.done,l.waits⟩:Dy_)) (Bj_:=a) (block:=0) (least:=1) (s:=Gn_ g) ha rV (by rw[hh];omega) h2;exact⟨d1,d2,d3,e1,h1,e2,h2,e3,h3,w3⟩
theorem begin_i{l:Dy_}(image:Bs)(hd:DkI l.d)(hb:l.broken=false)(hg:0<=l.gen/\l.gen<1000):((Bb_ l image).2=l/\((Bb_ l image).1=17/\3776<(Bd_ [image]).1.length\/(Bd_ [image]).2≠0/\(Bb_ l image).1=(Bd_ [image]).2))\/∃ d' a,Bb_ l image=(0,(⟨d',a,l.gen+1,true,false,(Bd_ [image]).1,[]⟩:Dy_))/\DkI d'/\d'.waits=[]/\(a=0\/a=1)/\(Bd_ [image]).1.length<=3776:=by
 have hw:A0 .u64 (l.gen+1)=l.gen+1:=by rw[IntKind.wrap_u64];omega
 unfold Bb_ lt;rw[hb];simp only[cond_false];by_cases h1:(Bd_ [image]).2=0;simp only[h1,decide_true,A5,cond_false];rw[row60 hd.2.2.2.1];by_cases h2:(3776:Int)<((Bd_ [image]).1.length:Int);left;simp only[h2,decide_true,cond_true];exact⟨trivial, .inl ⟨trivial,by omega⟩⟩;have h3:¬l.gen=18446744073709551615:=by omega
 simp only[h2,h3,decide_false,cond_false];right;have hs:(Bd_ [image]).1.length<=3776:=by omega
 by_cases h4:l.Bj_=0;simp only[h4,decide_true,cond_true];obtain⟨d1,d2,d3,e1,g1,e2,g2,e3,g3,w3⟩:=three_i (l:=l) (a:=1) (s:=(Bd_ [image]).1) hd (.inr Z) hs (A0 .u64 (l.gen+1));rw[h4,hb] at e1 e2 e3;simp only[e1,e2,e3,decide_true,A5,cond_false];rw[hw];exact⟨d3,1,rfl,g3,w3, .inr Z,hs⟩;simp only[h4,decide_false,cond_false];obtain⟨d1,d2,d3,e1,g1,e2,g2,e3,g3,w3⟩:=three_i (l:=l) (a:=0) (s:=(Bd_ [image]).1) hd (.inl Z) hs (A0 .u64 (l.gen+1));rw[hb] at e1 e2 e3;simp only[e1,e2,e3,decide_true,A5,cond_false];rw[hw];exact⟨d3,0,rfl,g3,w3, .inl Z,hs⟩;left;simp only[h1,decide_false,AF,cond_true];refine⟨trivial, .inr ⟨?_,?_⟩⟩<;>first|trivial|exact h1|(intro e;exact h1 e)
def A2_(l:Dy_)(records:List Bs):Int×Dy_:=
 lt (Fv_ l) λr=>
 (bif !decide (r=0) then
 (r,l)
 else lt (Bd_ records) λr1=>
 (bif !decide (r1.2=0) then
 (r1.2,l)
 else lt (F1_ l) λr2=>
 (bif decide (r2<(r1.1.length:Int)) then
 (17,l)
 else (0,(⟨l.d,l.Bj_,l.gen,l.ready,l.broken,l.done,(l.waits++r1.1)⟩:Dy_)))))
theorem append_f(l:Dy_)(rs:List Bs):(A2_ l rs).2.d=l.d/\(A2_ l rs).2.Bj_=l.Bj_/\(A2_ l rs).2.gen=l.gen/\(A2_ l rs).2.ready=l.ready/\(A2_ l rs).2.broken=l.broken/\(A2_ l rs).2.done=l.done/\((A2_ l rs).1≠0->(A2_ l rs).2=l)/\((A2_ l rs).2.waits.length:Int)<=max (l.waits.length:Int) (Fh_ l):=by
 unfold A2_ lt;by_cases h1:Fv_ l=0;by_cases h2:(Bd_ rs).2=0;by_cases h3:F1_ l<((Bd_ rs).1.length:Int);simp only[h1,h2,h3,decide_true,A5,cond_false,cond_true];refine⟨?_,?_,?_,?_,?_,?_,?_,?_⟩<;>first|trivial|(intro _;trivial)|omega
 . simp only[h1,h2,h3,decide_true,decide_false,A5,cond_false]
   have :=room_f l
   refine⟨?_,?_,?_,?_,?_,?_,?_,?_⟩<;>first|trivial|(intro h;exact (h Z).elim)|(intro h;exact absurd U h)|(intro h;simp at h;done)|(simp only[A1];omega)
 simp only[h1,h2,decide_true,decide_false,A5,AF,cond_false,cond_true];refine⟨?_,?_,?_,?_,?_,?_,?_,?_⟩<;>first|trivial|(intro _;trivial)|omega
 simp only[h1,decide_false,AF,cond_true];refine⟨?_,?_,?_,?_,?_,?_,?_,?_⟩<;>first|trivial|(intro _;trivial)|omega
end Go.SW.V
namespace Go.SW
end Go.SW
namespace Go.SW.V
open Go.SW
end Go.SW.V
namespace Go.SW
def GPow(H:Hp)(g:Nat):Prop:=∃ T fr,H g=some (.cells (Go.Lib.pow10Tab.map (Value.int .u64)).toArray T fr)
theorem GPow.mono{H H':Hp}{g:Nat}(h:GPow H g)(hl:HLe H H'):GPow H' g:=by
 obtain⟨T,fr,e⟩:=h;exact⟨T,fr,hl _ _ e⟩
end Go.SW
namespace Go.SW
open Go.RowKit
variable{P:Program}
end Go.SW
namespace Go.SW.V
open Go.SW
def N0_(x:V_)(y:V_):Bool:=
 (((decide (x.Ad_=y.Ad_))&&(x.lent==y.lent))&&(x.again==y.again))
def If_(s2:List O_):List O_->Nat->Bool
 |[],k=>true
 | x::t,k=>(bif !(decide (x=(gt s2 k))) then
 false
 else If_ s2 t (k+1))
def Qd_(s1:List O_)(s2:List O_):Bool:=
 (bif !decide ((s1.length:Int)=(s2.length:Int)) then
 false
 else If_ s2 s1 0)
def Ig_(s2:List V_):List V_->Nat->Bool
 |[],k=>true
 | x::t,k=>(bif !(N0_ x (gt s2 k)) then
 false
 else Ig_ s2 t (k+1))
def Qe_(s1:List V_)(s2:List V_):Bool:=
 (bif !decide ((s1.length:Int)=(s2.length:Int)) then
 false
 else Ig_ s2 s1 0)
def Ih_(s2:List Mail):List Mail->Nat->Bool
 |[],k=>true
 | x::t,k=>(bif !(decide (x=(gt s2 k))) then
 false
 else Ih_ s2 t (k+1))
def Qf_(s1:List Mail)(s2:List Mail):Bool:=
 (bif !decide ((s1.length:Int)=(s2.length:Int)) then
 false
 else Ih_ s2 s1 0)
def St_(a:As_)(b:As_):Bool:=
 (Qe_ a.items b.items)
def Mv_(a:Ag_)(b:Ag_):Bool:=
 ((decide (a.total=b.total))&&(Qf_ a.kept b.kept))
def Ql_(a:By_)(b:By_):Bool:=
 ((decide (a.total=b.total))&&(decide (a.kept=b.kept)))
def N8_(a:Az_)(b:Az_):Bool:=
 ((decide (a.D3_=b.D3_))&&(Qd_ a.binds b.binds))
def M0_(x:Hh_)(y:Hh_):Bool:=
 ((decide (x.q=y.q))&&(St_ x.l y.l))
def Jh_(s2:List Hh_):List Hh_->Nat->Bool
 |[],k=>true
 | x::t,k=>(bif !(M0_ x (gt s2 k)) then
 false
 else Jh_ s2 t (k+1))
def Tq_(s1:List Hh_)(s2:List Hh_):Bool:=
 (bif !decide ((s1.length:Int)=(s2.length:Int)) then
 false
 else Jh_ s2 s1 0)
def Jl_(a:I_)(b:I_):Nat->Nat->Bool
 |0,_=>default
 | f2+1,v=>(bif decide ((v:Int)<16) then
 (bif !(Mv_ (A16.get a.rises v) (A16.get b.rises v)) then
 false
 else Jl_ a b f2 (v+1))
 else true)
def Me_(a:I_)(b:I_):Bool:=
 (bif (((!decide (a.next = b.next))||(!decide (a.bytes=b.bytes)))||(!(Tq_ a.rows b.rows))) then
 false
 else Jl_ a b (16-0+1) 0)
def Iu_(a:Ac_)(b:Ac_):Bool:=
 (((((N8_ a.book b.book)&&(Me_ a.E_ b.E_))&&(Ql_ a.notes b.notes))&&(decide (a.seen=b.seen)))&&(decide (a.spent=b.spent)))
def Gs_(b:Az_):(List W_):=
 b.D3_
def Dg_:List O_->List O_->(List O_)
 |[],out=>out
 |x::t,out=>Dg_ t (out++[x])
def Ez_(b:Az_):(List O_):=
 Dg_ b.binds []
theorem binds_eq0:∀ (l out:List O_),Dg_ l out=out++l
 |[],out=>by simp[Dg_]
 |x::t,out=>by unfold Dg_;rw[binds_eq0 t];simp
theorem binds_eq(b:Az_):Ez_ b=b.binds:=by unfold Ez_;rw[binds_eq0];rfl
theorem shops_eq(b:Az_):Gs_ b=b.D3_:=rfl
theorem headE_len{h:List Pair}(e:Ii_ h=0):h.length<=8:=by
 unfold Ii_ at e
 split at e
 . cases e
 omega
theorem bk_want{b:Az_}(h:BkOk b)(k:BkB b):b.binds.length<=1000/\∀ y∈b.binds,y.want.length<=1000:=
 ⟨by have :=h.2.1;omega,λy hy=>by have :=headE_len (k.2 y hy).2.2.2.1;omega⟩
def Wq_:Bool:=
 (So_)
variable{r r':Bs}
def bitM(y:Bool):Nat:=if y then 1 else 0
def shopB(s:W_):Bs:=txtB s.name++(numB 1 s.sort.toNat++txtB s.to')
def bindB(y:O_):Bs:=txtB y.Bl_++(txtB y.to'++(numB 1 (bitM y.up)++(txtB y.key++(Cp_ y.want++numB 1 (bitM y.all)))))
def noteB(n:Ea_):Bs:=numB 8 n.tick.toNat++(numB 1 n.kind.toNat++txtB n.text)
def Y3_(n:By_):Bs:=numB 8 n.total.toNat++(numB 1 n.kept.length++n.kept.flatMap noteB)
def bookB(b:Az_):Bs:=numB 1 b.D3_.length++(b.D3_.flatMap shopB++(numB 1 b.binds.length++b.binds.flatMap bindB))
end Go.SW.V
namespace Go.SW.V
open Go.SW
def F3_(yes:Bool):Int:=
 (bif yes then
 1
 else 0)
def Gu_(x:V_):Int:=
 (bif x.lent then
 (bif x.again then
 (A0 .u64 (1+2))
 else 1)
 else (bif x.again then
 (A0 .u64 (0+2))
 else 0))
def Bs_:List Ea_->Out->Bs
 |[],x=>x.s
 |x1::t,x=>Bs_ t (H_ (B_ (B_ x (x1.tick) 8) (x1.kind) 1) (x1.text))
def Du_(n:By_):Bs:=
 Bs_ n.kept (B_ (B_ (⟨[],0⟩:Out) n.total 8) (n.kept.length:Int) 1)
def Cd_:List Mail->Out->Bs
 |[],x1=>x1.s
 |x2::t,x1=>Cd_ t (Y_ x1 (Dj_ x2))
def Db_(x:Ag_):Bs:=
 Cd_ x.kept (B_ (B_ (⟨[],0⟩:Out) x.total 8) (x.kept.length:Int) 1)
def Ji_:List V_->As_->As_×Int
 |[],x=>(x,0)
 |x1::t,x=>lt (Gd_ x x1) λr=>
 (bif !decide (r.2=0) then
 ((⟨[]⟩:As_),r.2)
 else Ji_ t r.1)
def Tz_(items:List V_):As_×Int:=
 Ji_ items (⟨[]⟩:As_)
theorem Om_(i:In):MlOk (D5_ i).1:=by
 unfold D5_;dsimp only
 split
 . split
   . rename_i h
     by_cases hc:Ja_ ⟨(R_ i 8).1,(P_ (R_ i 8).2 16).1,(P_ (P_ (R_ i 8).2 16).2 64).1,(Bx_ (P_ (P_ (R_ i 8).2 16).2 64).2).1,(P_ (Bx_ (P_ (P_ (R_ i 8).2 16).2 64).2).2 256).1,(R_ (P_ (Bx_ (P_ (P_ (R_ i 8).2 16).2 64).2).2 256).2 8).1,(R_ (R_ (P_ (Bx_ (P_ (P_ (R_ i 8).2 16).2 64).2).2 256).2 8).2 1).1⟩=0
     exact mlOk_of hc (Ai_ _ _).1
     exact (Ln_ hc h).elim
   exact Io_
 exact Io_
theorem mls_nil:∀ y∈([]:List V_),MlOk y.Ad_:=λ_ h=>by cases h
theorem mls_app{l:List V_}{x:V_}(h:∀ y∈l,MlOk y.Ad_)(hx:MlOk x.Ad_):∀ y∈l++[x],MlOk y.Ad_:=λy hy=>by
 rcases List.mem_append.1 hy with q|q
 . exact h y q
 . rw[List.mem_singleton.1 q];exact hx
theorem lof_ok0:∀ (t:List V_) (l:As_),LnOk l->(∀ y∈t,MlOk y.Ad_)->LnOk (Ji_ t l).1
 |[],_,h,_=>h
 |x::t,l,h,hx=>by
   unfold Ji_ lt
   refine bt (P:=λr:As_×Int=>LnOk r.1) (λ_=>Sw_) λ_=>?_
   exact lof_ok0 t _ (lput_ok h (hx x qB).2.1) λy hy=>hx y (by simp[hy])
theorem lof_ok{t:List V_}(h:∀ y∈t,MlOk y.Ad_):LnOk (Tz_ t).1:=lof_ok0 t _ Sw_ h
theorem nb_len0:∀ (t:List Ea_) (x:Out),(∀ y∈t,y.text.length<=64)->(Bs_ t x).length<=x.s.length+100*t.length
 |[],x,_=>by simp[Bs_]
 |y::t,x,h=>by
   have h1:=nb_len0 t (H_ (B_ (B_ x (y.tick) 8) (y.kind) 1) (y.text)) (λz hz=>h z pC)
   have h2:=Aw_ (B_ (B_ x (y.tick) 8) (y.kind) 1) y.text
   have h3:=Q_ (B_ x (y.tick) 8) (y.kind) 1
   have h4:=Q_ x (y.tick) 8
   have h5:=h y qB
   rw[Bs_]
   exact sD
theorem nb_len{n:By_}(hn:n.kept.length<=32)(h:NoB n):(Du_ n).length<=4000:=by
 have h1:=nb_len0 n.kept (B_ (B_ (⟨[],0⟩:Out) n.total 8) (n.kept.length:Int) 1) (λy hy=>(h y hy).1);have h2:=Q_ (B_ (⟨[],0⟩:Out) n.total 8) (n.kept.length:Int) 1;have h3:=Q_ (⟨[],0⟩:Out) n.total 8;have h4:(⟨[],0⟩:Out).s.length=0:=rfl;unfold Du_;omega
theorem rb_len0:∀ (t:List Mail) (x:Out),(Cd_ t x).length<=x.s.length+3000*t.length
 |[],x=>by simp[Cd_]
 |y::t,x=>by
   have h1:=rb_len0 t (Y_ x (Dj_ y))
   have h2:=Ed_ x (Dj_ y)
   have h3:=Ge_ y
   rw[Cd_]
   exact sD
theorem rb_len{x:Ag_}(h:RiOk x):(Db_ x).length<=50000:=by
 have h1:=rb_len0 x.kept (B_ (B_ (⟨[],0⟩:Out) x.total 8) (x.kept.length:Int) 1);have h2:=Q_ (B_ (⟨[],0⟩:Out) x.total 8) (x.kept.length:Int) 1;have h3:=Q_ (⟨[],0⟩:Out) x.total 8;have h4:(⟨[],0⟩:Out).s.length=0:=rfl;have h5:=h.1;unfold Db_;omega
theorem mks_app{l:List Mail}{x:Mail}(h:∀ y∈l,MlOk y)(hx:MlOk x):∀ y∈l++[x],MlOk y:=λy hy=>by
 rcases List.mem_append.1 hy with q|q
 . exact h y q
 . rw[List.mem_singleton.1 q];exact hx
theorem mks_nil:∀ y∈([]:List Mail),MlOk y:=λ_ h=>by cases h
def ImOk(x:Ac_):Prop:=BkOk x.book/\BkB x.book/\StkOk x.E_/\RoB x.E_/\x.notes.kept.length<=32/\NoB x.notes
def DdG(d:G_):Prop:=DdOk d/\0<=d.code/\d.code<=255/\0<=d.Ad_.hops/\0<=d.Bl_.sort/\∀ p∈d.bind.want,p.wf
def DdsG(i:In)(l:List G_):Prop:=i.err=0->∀ d∈l,DdG d
theorem ddq(q:T_):DdG (⟨2,0,(⟨[],0,[]⟩:W_),q,(⟨[],[],false,[],[],false⟩:O_),[],0,0,0,0,0,(⟨0,[],[],[],[],0,0⟩:Mail),[]⟩:G_):=
 ⟨⟨by simp,by simp,by simp,by simp⟩,by simp,by simp,by simp,by simp,λ_ h=>by cases h⟩
theorem dds_nil(i:In):DdsG i []:=λ_ _ h=>by cases h
theorem dds_app{i j:In}{l:List G_}{d:G_}(h:DdsG i l)(he:j.err=0->i.err=0/\DdG d):DdsG j (l++[d]):=λe y hy=>by
 obtain⟨e1,e2⟩:=he e
 rcases List.mem_append.1 hy with q|q
 . exact h e1 y q
 . rw[List.mem_singleton.1 q];exact e2
theorem dds_shop{i:In}{r1 r2 r3:_}{l:List G_}(h:DdsG i l)(h1:P_ i 16=r1)(h2:R_ r1.2 1=r2)(h3:P_ r2.2 16=r3):DdsG r3.2 (l++[(⟨0,0,(⟨r1.1,r2.1,r3.1⟩:W_),(⟨[],0,0,[]⟩:T_),(⟨[],[],false,[],[],false⟩:O_),[],0,0,0,0,0,(⟨0,[],[],[],[],0,0⟩:Mail),[]⟩:G_)]):=by
 refine dds_app h λe=>?_;subst h3;have e2:=(Nw_ e).1;subst h2;have e1:=(Oj_ e2).1;subst h1;exact⟨(Nw_ e1).1,⟨by simp,by simp,by simp,by simp⟩,by simp,by simp,by simp,(Ai_ _ _).1,λ_ h=>by cases h⟩
theorem dds_bind{i:In}{r5 r6 r7 r8 r9 r10:_}{l:List G_}(h:DdsG i l)(h5:P_ i 16=r5)(h6:P_ r5.2 16=r6)(h7:R_ r6.2 1=r7)(h8:P_ r7.2 64=r8)(h9:Bx_ r8.2=r9)(h10:R_ r9.2 1=r10):DdsG r10.2 (l++[(⟨4,0,(⟨[],0,[]⟩:W_),(⟨[],0,0,[]⟩:T_),(⟨r5.1,r6.1,decide (r7.1=1),r8.1,r9.1,decide (r10.1=1)⟩:O_),[],0,0,0,0,0,(⟨0,[],[],[],[],0,0⟩:Mail),[]⟩:G_)]):=by
 refine dds_app h λe=>?_;subst h10;have e9:=(Oj_ e).1;subst h9;obtain⟨e8,_,hd⟩:=Z9_ e9;subst h8;have k8:=Nw_ e8;subst h7;have e6:=(Oj_ k8.1).1;subst h6;have e5:=(Nw_ e6).1;subst h5;refine⟨(Nw_ e5).1,⟨?_,?_,by simp,by simp⟩,by simp,by simp,by simp,by simp,Rb_ _⟩;have :=k8.2.2;show (P_ _ 64).1.length<=1000;omega;have :=(M8_ hd).1;show (Bx_ _).1.length<=1000;omega
def A6_:List V_->Out->Out
 |[],x2=>x2
 |x3::t,x2=>A6_ t (Y_ (B_ x2 (Gu_ x3) 1) (Dj_ (x3.Ad_)))
def C0_(s:I_)(x:Out):Nat->Int->Nat->Out->Bs
 |0,_,_,_=>default
 | f2+1,many,v,x4=>(bif decide ((v:Int)<16) then
 lt (Ky_ (A16.get s.rises v)) λr1=>
 (bif decide (0<r1) then
 C0_ s x f2 (A0 .u64 (many+1)) (v+1) (Y_ (B_ x4 (v:Int) 1) (Db_ (A16.get s.rises v)))
 else C0_ s x f2 many (v+1) x4)
 else ((Y_ (B_ x many 1) x4.s).s))
def Bi_(s:I_):List Hh_->Out->Bs
 |[],x=>C0_ s x (16-0+1) 0 0 (⟨[],0⟩:Out)
 | x5::t1,x=>(lt1 (lt (Fd_ (x5.l)) λr=>
 A6_ r (B_ (H_ (B_ (B_ (H_ x (x5.q.name)) (x5.q.most) 8) (x5.q.life) 8) (x5.q.dead)) (A0 .u64 (Ft_ (x5.l))) 1)) (λx1=>
 Bi_ s t1 x1))
def B4_(s:I_):Bs:=
 Bi_ s s.rows (B_ (B_ (⟨[],0⟩:Out) s.next 8) (s.rows.length:Int) 1)
theorem kb_len1:∀ (t:List V_) (x:Out),(A6_ t x).s.length<=x.s.length+3100*t.length
 |[],x=>by simp[A6_]
 |y::t,x=>by
   have h1:=kb_len1 t (Y_ (B_ x (Gu_ y) 1) (Dj_ (y.Ad_)))
   have h2:=Ed_ (B_ x (Gu_ y) 1) (Dj_ (y.Ad_))
   have h3:=Ge_ y.Ad_
   have h4:=Q_ x (Gu_ y) 1
   rw[A6_]
   exact sD
theorem kb_len2{s:I_}(hs:StkOk s)(x:Out):∀ (f:Nat) (many:Int) (v:Nat) (x4:Out),(C0_ s x f many v x4).length<=x.s.length+8+x4.s.length+60000*(16-v)
 |0,_,_,_=>AQ _
 |f+1,many,v,x4=>by
   rw[C0_]
   refine bt (P:=λr:Bs=>r.length<=_) (λe=>?_) λe=>?_
   . simp only[decide_eq_true_eq] at e
     unfold lt
     refine bt (P:=λr:Bs=>r.length<=_) (λ_=>?_) λ_=>?_
     . have h1:=kb_len2 hs x f (A0 .u64 (many+1)) (v+1) (Y_ (B_ x4 (v:Int) 1) (Db_ (A16.get s.rises v)))
       have h2:=Ed_ (B_ x4 (v:Int) 1) (Db_ (A16.get s.rises v))
       have h3:=Q_ x4 (v:Int) 1
       have h4:=rb_len (hs.2.1 v rV)
       have h5:(Db_ (A16.get s.rises v)).length<=50000:=h4
       omega
     . have h1:=kb_len2 hs x f many (v+1) x4
       omega
   . have h2:=Ed_ (B_ x many 1) x4.s
     have h3:=Q_ x many 1
     omega
theorem kb_len0{s:I_}(hs:StkOk s):∀ (t:List Hh_) (x:Out),(∀ r∈t,LnOk r.l/\Ef_ r.q=0)->(Bi_ s t x).length<=x.s.length+200000*(t.length+5)
 |[],x,_=>by
   have h1:=kb_len2 hs x (16-0+1) 0 0 (⟨[],0⟩:Out)
   have h4:(⟨[],0⟩:Out).s.length=0:=rfl
   rw[Bi_]
   simp only[A6]
   omega
 |r::t,x,h=>by
   rw[Bi_]
   obtain⟨hl,hq⟩:=h r qB
   obtain⟨q1,q2,_,_⟩:=Vf_ hq
   show (Bi_ s t (A6_ (Fd_ r.l) (B_ (H_ (B_ (B_ (H_ x (r.q.name)) (r.q.most) 8) (r.q.life) 8) (r.q.dead)) (A0 .u64 (Ft_ (r.l))) 1))).length<=_
   have h7:=Aw_ x (r.q.name)
   generalize H_ x (r.q.name)=o1 at h7 ⊢
   have h6:=Q_ o1 (r.q.most) 8
   generalize B_ o1 (r.q.most) 8=o2 at h6 ⊢
   have h5:=Q_ o2 (r.q.life) 8
   generalize B_ o2 (r.q.life) 8=o3 at h5 ⊢
   have h4:=Aw_ o3 (r.q.dead)
   generalize H_ o3 (r.q.dead)=o4 at h4 ⊢
   have h3:=Q_ o4 (A0 .u64 (Ft_ (r.l))) 1
   generalize B_ o4 (A0 .u64 (Ft_ (r.l))) 1=o5 at h3 ⊢
   have h8:=all_len hl
   have h2:=kb_len1 (Fd_ r.l) o5
   generalize A6_ (Fd_ r.l) o5=o6 at h2 ⊢
   have h1:=kb_len0 hs t o6 (λz hz=>h z pC)
   refine AM h1 ?_
   clear h1
   generalize (Fd_ r.l).length=n at h2 h8
   exact sD
theorem kb_len{s:I_}(hs:StkOk s)(hq:RoB s):(B4_ s).length<=3000000:=by
 unfold B4_;have h3:=Q_ (⟨[],0⟩:Out) s.next 8;have h4:(⟨[],0⟩:Out).s.length=0:=rfl;generalize B_ (⟨[],0⟩:Out) s.next 8=o1 at h3 ⊢;have h2:=Q_ o1 (s.rows.length:Int) 1;generalize B_ o1 (s.rows.length:Int) 1=o2 at h2 ⊢;have h1:=kb_len0 hs s.rows o2 (λr hr=>⟨hs.1.2.1 r hr,hq r hr⟩);have h5:=hs.1.1;refine AM h1 ?_;clear h1;omega
theorem Cq_{z:Int}(h0:0<=z)(h1:z<=18446744073709551615):IntKind.wrap .u64 z=z:=Rs_ ⟨h0,h1⟩
def Ki_(r1:Int×In):Nat->Int->Int->List Mail->In->Ag_×In
 |0,_,_,_,_=>default
 | f2+1,k,total,kept,x1=>(bif ((decide (k<r1.1))&&(decide (x1.err=0))) then
 lt (D5_ x1) λr2=>
 Ki_ r1 f2 (A0 .u64 (k+1)) total (kept++[r2.1]) r2.2
 else (bif !decide (x1.err=0) then
 ((⟨0,[]⟩:Ag_),x1)
 else ((⟨total,kept⟩:Ag_),x1)))
def Lr_(i:In):Ag_×In:=
 lt (R_ i 8) λr=>
 lt (R_ r.2 1) λr1=>
 (lt1 ((bif !decide (r1.2.err=0) then
 r1.2
 else (bif decide (16<r1.1) then
 (Bt_ r1.2 6)
 else (bif !decide (r1.1=(min r.1 16)) then
 (Bt_ r1.2 7)
 else r1.2)))) (λx=>
 Ki_ r1 ((r1.1-0).toNat+1) 0 r.1 [] x))
def G5_(r1:Int×In):Nat->Int->Int->List Ea_->In->By_×In
 |0,_,_,_,_=>default
 | f2+1,k,total,kept,x1=>(bif ((decide (k<r1.1))&&(decide (x1.err=0))) then
 lt (R_ x1 8) λr2=>
 lt (R_ r2.2 1) λr3=>
 lt (P_ r3.2 64) λr4=>
 G5_ r1 f2 (A0 .u64 (k+1)) total (kept++[(⟨r2.1,r3.1,r4.1⟩:Ea_)]) r4.2
 else (bif !decide (x1.err=0) then
 ((⟨0,[]⟩:By_),x1)
 else ((⟨total,kept⟩:By_),x1)))
def Ec_(i:In):By_×In:=
 lt (R_ i 8) λr=>
 lt (R_ r.2 1) λr1=>
 (lt1 ((bif !decide (r1.2.err=0) then
 r1.2
 else (bif decide (32<r1.1) then
 (Bt_ r1.2 6)
 else (bif !decide (r1.1=(min r.1 32)) then
 (Bt_ r1.2 7)
 else r1.2)))) (λx=>
 G5_ r1 ((r1.1-0).toNat+1) 0 r.1 [] x))
theorem rread_ok0(r1:Int×In):∀ (f:Nat) (k total:Int) (kept:List Mail) (x:In),(∀ m∈kept,MlOk m)->(kept.length:Int)=k->k<=16->(x.err=0->r1.1<=16)->RiOk (Ki_ r1 f k total kept x).1
 |0,_,_,_,_,_,_,_,_=>⟨Nat.zero_le _,λ_ h=>by cases h⟩
 |f+1,k,total,kept,x,h,hk,h16,he=>by
   rw[Ki_]
   refine bt (P:=λr:Ag_×In=>RiOk r.1) (λe=>?_) λe=>?_
   . simp only[A4,decide_eq_true_eq] at e
     have h1:=he e.2
     refine rread_ok0 r1 f _ _ _ _ (mks_app h (Om_ x)) ?_ ?_ (λ_=>h1)
     . rw[Cq_ rV rV]
       exact sC
     . rw[Cq_ rV rV];omega
   . refine bt (P:=λr:Ag_×In=>RiOk r.1) (λ_=>riOk_nil) λ_=>?_
     exact⟨by show kept.length<=16;omega,λm hm=>(h m hm).1⟩
theorem U6_{i:In}{c:Int}(h:(Bt_ i c).err=0):i.err=0/\c=0:=by
 by_cases hc:c=0;subst hc;rw[inFail_0] at h;exact⟨h,rfl⟩;exact (Ln_ hc h).elim
theorem rread_ok(i:In):RiOk (Lr_ i).1:=by
 unfold Lr_ lt lt1;refine rread_ok0 _ _ _ _ _ _ mks_nil Z rX λe=>?_
 revert e
 refine bt (P:=λj:In=>j.err=0->_) (λe1 e2=>?_) λe1=>bt (P:=λj:In=>j.err=0->_) (λe2 e3=>(Ln_ rX e3).elim) λe2 _=>?_;exact tY;simp only[decide_eq_false_iff_not] at e2;omega
theorem nread_ok0(r1:Int×In):∀ (f:Nat) (k total:Int) (kept:List Ea_) (x:In),(x.err=0->NoB ⟨0,kept⟩)->(kept.length:Int)=k->k<=32->(x.err=0->r1.1<=32)->(G5_ r1 f k total kept x).1.kept.length<=32/\NoB (G5_ r1 f k total kept x).1
 |0,_,_,_,_,_,_,_,_=>⟨Nat.zero_le _,λ_ h=>by cases h⟩
 |f+1,k,total,kept,x,h,hk,h16,he=>by
   rw[G5_]
   refine bt (P:=λr:By_×In=>r.1.kept.length<=32/\NoB r.1) (λe=>?_) λe=>?_
   . simp only[A4,decide_eq_true_eq] at e
     have h1:=he e.2
     unfold lt
     refine nread_ok0 r1 f _ _ _ _ (λe4=>?_) ?_ ?_ (λ_=>h1)
     . intro y hy
       rcases List.mem_append.1 hy with q|q
       . exact h e.2 y q
       . rw[List.mem_singleton.1 q]
         have k1:=(Nw_ e4).2.2
         have k2:=Ai_ (R_ x 8).2 1
         refine⟨?_,k2.1,k2.2.2.2 rX⟩
         show (P_ _ 64).1.length<=64
         omega
     . rw[Cq_ rV rV]
       exact sC
     . rw[Cq_ rV rV];omega
   . refine bt (P:=λr:By_×In=>r.1.kept.length<=32/\NoB r.1) (λ_=>⟨Nat.zero_le _,λ_ h=>by cases h⟩) λe1=>?_
     simp only[AX,decide_eq_true_eq] at e1
     exact⟨by show kept.length<=32;omega,h e1⟩
theorem nread_ok(i:In):(Ec_ i).1.kept.length<=32/\NoB (Ec_ i).1:=by
 unfold Ec_ lt lt1;refine nread_ok0 _ _ _ _ _ _ (λ_ _ h=>by cases h) Z rX λe=>?_
 revert e
 refine bt (P:=λj:In=>j.err=0->_) (λe1 e2=>?_) λe1=>bt (P:=λj:In=>j.err=0->_) (λe2 e3=>(Ln_ rX e3).elim) λe2 _=>?_;exact tY;simp only[decide_eq_false_iff_not] at e2;omega
theorem nread_e0(r1:Int×In):∀ (f:Nat) (k total:Int) (kept:List Ea_) (x:In),k<r1.1+1->(r1.1-k).toNat<f->0<=k->r1.1<=255->(G5_ r1 f k total kept x).2.err=0->x.err=0
 |0,_,_,_,_,_,hf,_,_,_=>by omega
 |f+1,k,total,kept,x,hk,hf,h0,h5,h=>by
   rw[G5_] at h
   revert h
   refine bt (P:=λr:By_×In=>r.2.err=0->x.err=0) (λe h=>?_) λe=>?_
   . simp only[A4,decide_eq_true_eq] at e
     exact e.2
   . exact bt (P:=λr:By_×In=>r.2.err=0->x.err=0) (λ_ h=>h) λ_ h=>h
theorem binds_id(b:Az_):Ez_ b=b.binds:=binds_eq b
theorem shops_f{b:Az_}(h:BkOk b)(h2:BkB b):(Gs_ b).length<=8/\∀ s∈Gs_ b,P2_ s=0:=⟨h.1,λs hs=>(h2.1 s hs).1⟩
theorem binds_f{b:Az_}(h:BkOk b)(h2:BkB b):(Ez_ b).length<=32/\∀ s∈Ez_ b,BiB s:=by
 rw[binds_id];exact⟨h.2.1,h2.2⟩
theorem bib_f{y:O_}(h:BiB y):y.Bl_.length<=16/\y.to'.length<=16/\y.key.length<=64:=⟨h.1,N3_ h.2.1,h.2.2.1⟩
def Is_(x:Ac_):Nat->Nat->Out->Bs
 |0,_,_=>default
 | f4+1,v1,x4=>(bif decide ((v1:Int)<8) then
 Is_ x f4 (v1+1) (B_ (B_ x4 ((A8.get x.spent v1).round) 8) (A0 .u64 ((A8.get x.spent v1).count)) 1)
 else x4.s)
def Ir_(x:Ac_):Nat->Nat->Out->Bs
 |0,_,_=>default
 | f5+1,v,x3=>(bif decide ((v:Int)<16) then
 Ir_ x f5 (v+1) (B_ x3 (A16.get x.seen v) 8)
 else Is_ x (8-0+1) 0 x3)
def Ex_(x:Ac_):List O_->Out->Bs
 |[],x2=>lt (B4_ x.E_) λr2=>
 Ir_ x (16-0+1) 0 (Y_ (Y_ (B_ x2 (r2.length:Int) 4) r2) (Du_ x.notes))
 |x5::t,x2=>Ex_ x t (B_ (Y_ (H_ (B_ (H_ (H_ x2 (x5.Bl_)) (x5.to')) (F3_ (x5.up)) 1) (x5.key)) (Cp_ (x5.want))) (F3_ (x5.all)) 1)
def Fn_(x:Ac_)(r1:(List O_)):List W_->Out->Bs
 |[],x1=>Ex_ x r1 (B_ x1 (r1.length:Int) 1)
 |x6::t1,x1=>Fn_ x r1 t1 (H_ (B_ (H_ x1 (x6.name)) (x6.sort) 1) (x6.to'))
def Be_(x:Ac_):Bs:=
 lt (Gs_ x.book) λr=>
 lt (Ez_ x.book) λr1=>
 Fn_ x r1 r (B_ (⟨[],0⟩:Out) (r.length:Int) 1)
def E7_:List G_->Bs->Bs×Int
 |[],x=>(x,0)
 | x1::t,x=>(bif !decide ((G2_ x1)=0) then
 ([],G2_ x1)
 else E7_ t (x++Bm_ x1))
def B9_(l:List G_):Bs×Int:=
 (bif decide (255<(l.length:Int)) then
 ([],6)
 else E7_ l [UInt8.ofNat ((A0 .u8 (l.length:Int))).toNat])
variable{P:Program}{n:Nat}{N:Rest}{H0:Env}{Q:Qs}{ks:List Kt}{fF:Nat->PV}{fL:Nat->Blk}
theorem junk_le{i o b T0:Nat}{cs:List PV}(hb:fL i = .box b T0 cs):StLe ⟨fF,fL⟩ ⟨fF,lups fL i (.box b T0 (cs.set o .junk))⟩:=by
 intro H0 F H L ha;have hp:∀ {p v},SimT fL H p v->SimT (lups fL i (.box b T0 (cs.set o .junk))) H p v:=λ{p v} h=>by
   cases p with
   |osl q=>
     simp only[SimT] at h ⊢
     by_cases hq:q=i
     . subst hq;simp only[hb] at h
       simp only[lups,GB,cond_true]
     . rw[F2_ _ _ _ _ hq];exact h
   |_=>exact h
 refine⟨ha.le,ha.g,λt=>hp (ha.f t),λq=>?_⟩;have hq:SimB fL H (fL q) (L q):=ha.l q;by_cases e:q=i
 . subst e
   show SimB _ H (lups fL q _ q) (L q)
   rw[C1_]
   rw[hb] at hq
   obtain⟨vs,h1,h2,h3⟩:=hq
   refine⟨vs,h1,by simp[h2],λm p v hm hv=>?_⟩
   rw[CG] at hm
   split at hm
   . split at hm
     . cases hm;exact Sim.junk
     . cases hm
   grind
 . show SimB _ H (lups fL i _ q) (L q)
   rw[F2_ _ _ _ _ e]
   have hq':SimB fL H (fL q) (L q):=hq
   generalize fL q=B at hq' ⊢
   cases B with
   |box b' T' cs'=>obtain⟨vs,h1,h2,h3⟩:=hq';exact⟨vs,h1,h2,λm p v hm hv=>hp (h3 m p v hm hv)⟩
   |_=>exact hq'
theorem bx_junk{i b T0:Nat}{cs:List PV}{c:Code}(o:Nat)(hb:fL i = .box b T0 cs)(kk:Hd P n N H0 Q (.code c) ks ⟨fF,lups fL i (.box b T0 (cs.set o .junk))⟩):Hd P n N H0 Q (.code c) ks ⟨fF,fL⟩:=
 SW.hd_le (junk_le hb) (λ_ h=>by cases h) kk
theorem rm2{tb:Tb}{rs:List ResultVar}{res p1 p2:PV}{b b' T:Nat}{post q:List PV}{as0 bs:List Nat}(h:Jx_ tb ⟨fF,fL⟩ rs=some ([p1,p2],as0,bs))(he:as0=bs)(hp:PLe (.tup [p1,p2]) res)(hb:fL 0 = .box b' T q)(hbb:b'=b)(hn:Df_ q=true)(hq:PLes q post):Hd P n N H0 (rmK tb rs res b T post) (.ex .ret) [] ⟨fF,fL⟩:=SW.rm h he hp hb hbb hn hq
end Go.SW.V
namespace Go.SW
structure RdR where
 p:Unit
 Er_:List G_
deriving DecidableEq,Inhabited
def RdR.pc(x:RdR):List PV:=[.junk, .sl G_.pc x.Er_]
variable{P:Program}{n:Nat}{N:Rest}{H0:Env}{all rest:List Oper}{Q:Qs}{ks:List Kt}{s:St}{T ty d:Nat}{pos:String}{af:Array Edge}{x:Operand}{K:St->Prop}
structure Fy(P:Program)(G:Gb)(f:FuncId)(arg:PV)(args:List PV)(T:TypeId)(pre:List PV)(res:PV)(post:List PV):Prop where
 cb:S_ P f
 no:res.noOsl=true
 np:Df_ post=true
 run:∀ (N:Rest) (H:Hp) (L:Ls) (w:World) (b i:Nat) (v0:Value) (vs vc:List Value),G.p H->Sim H arg v0->Sims H args vs->L i=some (b,bx T vc)->Sims H pre vc->Mem N H L w ->
   Calls P f (v0::Value.pointer (some ⟨b,0,none⟩)::vs).toArray w λe w'=>∃ v H' vc',e = .returned v/\Sim H' res v/\Sims H' post vc'/\HLe H H'/\Mem N H' (lupd L i (some (b,bx T vc'))) w'
theorem fy_cw{tb:Tb}{G:Gb}{m:Nat}{f:FuncId}{fn:Func}{c:Code}{arg:PV}{args pre post:List PV}{res:PV}{T:Nat}(ht:tbB P tb=true)(hf:P.funcs[f]? = some fn)(hb:fn.body=some c)(hn:fn.ntmps=m)(hs:Nat.ble (args.length+2) m=true)(hcb:S_ P f)(hno:res.noOsl=true)(hna:Df_ (arg::args)=true)(hnp:Df_ pre=true)(hnq:Df_ post=true)
   (h:PV.wfs (arg::args)->PV.wfs pre->∀ b N H,G.p H->Hd P m N ⟨H,G⟩ (rmK tb fn.results.toList res b T post) (.code c) [] ⟨O8_ (arg :: .own 0 b 0::args),lups (λ_=> .no) 0 (.box b T pre)⟩):Fy P G f arg args T pre res post:=by
 refine⟨hcb,hno,hnq,λN H L w b i v0 vs vc hg hs0 hsim hL hpre hm=>?_⟩;subst hn;simp only[Df_,A4] at hna;have hs':Sims H (arg :: .own 0 b 0::args) (v0::CD (some ⟨b,0,none⟩)::vs):=(hsim.cons Sim.own).cons hs0;have key:Pm P f (v0::CD (some ⟨b,0,none⟩)::vs).toArray H b (bx T vc) (λv H' o'=>∃ vc',o'=bx T vc'/\Sim H' res v/\Sims H' post vc'):=by
   refine pm_of_cw hf hb pK λN=>?_
   have h1:=h (hsim.cons hs0).wf hpre.wf b N H hg (K7_ (v0::CD (some ⟨b,0,none⟩)::vs).toArray) H (ofL [(b,bx T vc)]) ⟨.refl H,hg,λt=>L8_ hs' (by simp only [Df_,A4];exact ⟨hna.1,rfl,hna.2⟩) t,λj=>by
     by_cases e:j=0
     . subst e;simp only[C1_];exact⟨vc,rfl,It_ hpre hnp⟩
     . simp only[F2_ _ _ _ _ e];trivial⟩
   refine Km_ (λe F' H' L' hq=>?_) h1
   obtain⟨s',ha',hq',q,hq1,hq2,hq3⟩:=hq
   obtain⟨he,v,hr,hv⟩:=Os_ (N:=N) ht ha' hq'
   have h3:=ha'.l 0
   rw[hq1] at h3
   obtain⟨vc',hL',hsv⟩:=h3
   rcases he with rfl|rfl
   . exact xD
   . exact xD
 exact zF
theorem ecally{f:FuncId}{arg:PV}{args pre post:List PV}{res:PV}{as0:Array Operand}{ats:Array TypeId}{i b b' T0 off:Nat}(h:Fy P H0.g f arg args T0 pre res post)(ha:argsP s.F x as0.toList=some (f,arg :: .own i b off::args))(hoff:off=0)(hb:s.L i = .box b' T0 pre)(hbb:b'=b)(hd:Nat.blt d n=true)(k:res.wf->PV.wfs post->K ⟨updp s.F d res,lups s.L i (.box b T0 post)⟩):E1 P n N H0 all ⟨some d, .call ⟨.value x,as0,ats⟩,ty,pos,af,none⟩ (some i) s K:=by
 intro F H L hab;subst hoff;subst hbb;obtain⟨us,h1,h2⟩:=I6_ (ats:=ats) hab.f ha h.cb;obtain⟨v1,us1,rfl,g3,g4⟩:=h1.inv_cons;obtain⟨v0,vs,rfl,h3,h4⟩:=g4.inv_cons;have h5:=h3.inv_own;subst h5;have h6:=hab.l i;rw[hb] at h6;obtain⟨vc,hL,hsv⟩:=h6;intro a w hA hm;rw[if_pos qD];unfold Oper.wp;rw[hA.eval,h2];refine (h.run N H L w b' i v1 vs vc hab.g g3 h4 hL hsv.sims hm).mono λe' w' ⟨v,H',vc',he,hv,hp,hl,hm'⟩=>?_;exact rA
end Go.SW
namespace Go.SW.V
open Go.SW
variable{P:Program}{n:Nat}{N:Rest}{H0:Env}{all rest:List Oper}{Q:Qs}{ks:List Kt}{fF:Nat->PV}{fL:Nat->Blk}{T ty d:Nat}{pos:String}{af:Array Edge}{x:Operand}{K:St->Prop}
theorem ecally{f:FuncId}{arg:PV}{args pre post:List PV}{res:PV}{as0:Array Operand}{ats:Array TypeId}{i b b' T0 off:Nat}(h:Fy P H0.g f arg args T0 pre res post)(ha:argsP fF x as0.toList=some (f,arg :: .own i b off::args))(hoff:off=0)(hb:fL i = .box b' T0 pre)(hbb:b'=b)(hd:Nat.blt d n=true)(k:res.wf->PV.wfs post->K ⟨updp fF d res,lups fL i (.box b T0 post)⟩):E1 P n N H0 all ⟨some d, .call ⟨.value x,as0,ats⟩,ty,pos,af,none⟩ (some i) ⟨fF,fL⟩ K:=SW.ecally (s:=⟨fF,fL⟩) h ha hoff hb hbb hd k
end Go.SW.V
namespace Go.SW.V
open Go.SW
theorem kmake_pos(s:I_)(q:T_):(Ba_ s q).2=0->0<(Ba_ s q).1.rows.length:=by
 unfold Ba_ lt;let R:I_×Int->Prop:=λr=>r.2=0->0<r.1.rows.length;refine bt (P:=R) (λe h=>?_) λ_=>bt (P:=R) (λe _=>?_) λ_=>bt (P:=R) (λ_ h=>by cases h) λ_=>bt (P:=R) (λ_ h=>by cases h) λ_ _=>?_
 exact tW;simp only[A4,decide_eq_true_eq] at e;have :=at_b s q.name;have :=e.1;show 0<s.rows.length;omega;simp
def Dl_(s:I_)(r:Bs×In)(r1:Int×In)(r2:Int×In)(r3:Bs×In):Nat->List V_->Int->In->I_×In
 |0,_,_,_=>default
 | f2+1,items,n,x=>(bif ((decide (0<n))&&(decide (x.err=0))) then
 lt (R_ x 1) λr5=>
 lt (D5_ r5.2) λr6=>
 (bif ((decide (3<r5.1))||((!decide (s.next = 0))&&(decide (s.next <= r6.1.id)))) then
 Dl_ s r r1 r2 r3 f2 (items++[(⟨r6.1,decide ((r5.1%2)=1),decide ((r5.1/2)=1)⟩:V_)]) (A0 .u64 (n-1)) (Bt_ r6.2 4)
 else Dl_ s r r1 r2 r3 f2 (items++[(⟨r6.1,decide ((r5.1%2)=1),decide ((r5.1/2)=1)⟩:V_)]) (A0 .u64 (n-1)) r6.2)
 else lt (Tz_ items) λr7=>
 (lt1 ((bif ((decide (r1.1<(A0 .u64 (Ft_ r7.1))))||(decide (0<=(An_ s r.1)))) then
 (Bt_ (Bt_ x r7.2) 4)
 else (Bt_ x r7.2))) (λx1=>
 lt (Ba_ s (⟨r.1,r1.1,r2.1,r3.1⟩:T_)) λr8=>
 (bif decide (((Bt_ x1 r8.2).err)=0) then
 lt (A5_ r8.1 ((r8.1.rows.length:Int)-1) r7.1) λr9=>
 (r9,(Bt_ x1 r8.2))
 else (r8.1,(Bt_ x1 r8.2))))))
def D6_(s:I_)(i:In):I_×In:=
 lt (P_ i 16) λr=>
 lt (R_ r.2 8) λr1=>
 lt (R_ r1.2 8) λr2=>
 lt (P_ r2.2 16) λr3=>
 lt (R_ r3.2 1) λr4=>
 Dl_ s r r1 r2 r3 ((r4.1).toNat+1) [] r4.1 r4.2
theorem stk_def:StkOk default/\RoB default:=⟨knew_ok 0 0 rX,λ_ h=>by cases h⟩
theorem rob_make{s:I_}{q:T_}(h:RoB s):RoB (Ba_ s q).1:=cloB.km h
theorem rrow_ok0{s:I_}(hs:StkOk s)(hq:RoB s)(r:Bs×In)(r1 r2:Int×In)(r3:Bs×In):∀ (f:Nat) (items:List V_) (n:Int) (x:In),(∀ y∈items,MlOk y.Ad_)->StkOk (Dl_ s r r1 r2 r3 f items n x).1/\RoB (Dl_ s r r1 r2 r3 f items n x).1
 |0,_,_,_,_=>stk_def
 |f+1,items,n,x,hi=>by
   rw[Dl_]
   let R:I_×In->Prop:=λy=>StkOk y.1/\RoB y.1
   refine bt (P:=R) (λ_=>?_) λ_=>?_
   . have h1:=mls_app (x:=(⟨(D5_ (R_ x 1).2).1,decide (((R_ x 1).1%2)=1),decide (((R_ x 1).1/2)=1)⟩:V_)) hi (Om_ (R_ x 1).2)
     unfold lt
     exact bt (P:=R) (λ_=>rrow_ok0 hs hq r r1 r2 r3 f _ _ _ h1) λ_=>rrow_ok0 hs hq r r1 r2 r3 f _ _ _ h1
   . unfold lt lt1
     refine bt (P:=R) (λe=>?_) λ_=>⟨Qg_ hs,rob_make hq⟩
     simp only[decide_eq_true_eq] at e
     have h2:=kmake_pos s _ (U6_ e).2
     exact⟨Qh_ (Qg_ hs) (lof_ok hi) rV,Qp_ (rob_make hq)⟩
theorem rrow_ok{s:I_}(hs:StkOk s)(hq:RoB s)(i:In):StkOk (D6_ s i).1/\RoB (D6_ s i).1:=by
 unfold D6_ lt;exact rrow_ok0 hs hq _ _ _ _ _ _ _ _ mls_nil
theorem knew_f(b n:Int)(h:n<=1000000):StkOk (Dw_ b n)/\RoB (Dw_ b n):=⟨knew_ok b n h,λ_ h=>by cases h⟩
def Ka_:Nat->Int->In->I_->In×I_
 |0,_,_,_=>default
 | f4+1,n1,x4,x5=>(bif ((decide (0<n1))&&(decide (x4.err=0))) then
 lt (R_ x4 1) λr5=>
 lt (Lr_ r5.2) λr6=>
 (bif decide (16<=r5.1) then
 ((Bt_ r6.2 4),x5)
 else Ka_ f4 (A0 .u64 (n1-1)) r6.2 (⟨x5.next,x5.bytes,x5.rows,(A16.set x5.rises r6.1 ((r5.1).toNat))⟩:I_))
 else (x4,x5))
def J9_(text:Bs):Nat->Int->In->I_->I_×Int
 |0,_,_,_=>default
 | f5+1,n,x,x1=>(bif ((decide (0<n))&&(decide (x.err=0))) then
 lt (D6_ x1 x) λr3=>
 J9_ text f5 (A0 .u64 (n-1)) r3.2 r3.1
 else (lt2 (lt (R_ x 1) λr4=>
 Ka_ ((r4.1).toNat+1) r4.1 r4.2 x1) (λx2 x3=>
 (bif (((!decide ((inEnd x2)=0))||(decide ((Gt_ x3)<0)))||(!decide ((B4_ x3)=text))) then
 ((⟨0,0,[],(⟨(⟨0,[]⟩:Ag_),(⟨0,[]⟩:Ag_),(⟨0,[]⟩:Ag_),(⟨0,[]⟩:Ag_),(⟨0,[]⟩:Ag_),(⟨0,[]⟩:Ag_),(⟨0,[]⟩:Ag_),(⟨0,[]⟩:Ag_),(⟨0,[]⟩:Ag_),(⟨0,[]⟩:Ag_),(⟨0,[]⟩:Ag_),(⟨0,[]⟩:Ag_),(⟨0,[]⟩:Ag_),(⟨0,[]⟩:Ag_),(⟨0,[]⟩:Ag_),(⟨0,[]⟩:Ag_)⟩:A16_RiseR)⟩:I_),4)
 else (x3,0)))))
def H5_(text:Bs)(bytes:Int):I_×Int:=
 lt (R_ (⟨text,0⟩) 8) λr=>
 lt (Dw_ r.1 bytes) λr1=>
 lt (R_ r.2 1) λr2=>
 J9_ text ((r2.1).toNat+1) r2.1 r2.2 r1
theorem kof_ok1:∀ (f:Nat) (n:Int) (x:In) (s:I_),StkOk s->RoB s->StkOk (Ka_ f n x s).2/\RoB (Ka_ f n x s).2
 |0,_,_,_,_,_=>stk_def
 |f+1,n,x,s,hs,hq=>by
   rw[Ka_]
   let R:In×I_->Prop:=λy=>StkOk y.2/\RoB y.2
   refine bt (P:=R) (λ_=>?_) λ_=>⟨hs,hq⟩
   unfold lt
   refine bt (P:=R) (λ_=>⟨hs,hq⟩) λe=>?_
   simp only[decide_eq_false_iff_not] at e
   have h0:=(Ai_ x 1).1
   exact kof_ok1 f _ _ _ (hs.set _ rV (rread_ok _)) hq
theorem kof_ok0(text:Bs):∀ (f:Nat) (n:Int) (x:In) (s:I_),StkOk s->RoB s->StkOk (J9_ text f n x s).1/\RoB (J9_ text f n x s).1
 |0,_,_,_,_,_=>stk_def
 |f+1,n,x,s,hs,hq=>by
   rw[J9_]
   let R:I_×Int->Prop:=λy=>StkOk y.1/\RoB y.1
   refine bt (P:=R) (λ_=>?_) λ_=>?_
   . obtain⟨h1,h2⟩:=rrow_ok hs hq x
     exact kof_ok0 text f _ _ _ h1 h2
   . unfold lt2 lt
     have h3:=kof_ok1 ((R_ x 1).1.toNat+1) (R_ x 1).1 (R_ x 1).2 s hs hq
     exact bt (P:=R) (λ_=>knew_f 0 0 rX) λ_=>h3
theorem kof_ok(text:Bs)(n:Int)(hn:n<=1000000):StkOk (H5_ text n).1/\RoB (H5_ text n).1:=by
 unfold H5_ lt;obtain⟨h1,h2⟩:=knew_f (R_ (⟨text,0⟩:In) 8).1 n hn;exact kof_ok0 text _ _ _ _ h1 h2
def Cy_(r:RdR):List G_->D_->Az_×Bool×RdR
 |[],x1=>lt (Aa_ x1) λr4=>
 (r4.book,true,(⟨(),r.Er_⟩:RdR))
 |x2::t,x1=>lt (Aa_ x1) λr2=>
 lt (K_ x1 x2) λr3=>
 (bif ((!decide (r3.2.2=0))||(N8_ r2.book ((Aa_ r3.1).book))) then
 ((⟨[],[]⟩:Az_),false,(⟨(),r.Er_⟩:RdR))
 else Cy_ r t r3.1)
def Cl_(r:RdR):List T_->D_->Az_×Bool×RdR
 |[],x=>Cy_ r r.Er_ x
 |x3::t1,x=>lt (K_ x (⟨2,0,(⟨[],0,[]⟩:W_),x3,(⟨[],[],false,[],[],false⟩:O_),[],0,0,0,0,0,(⟨0,[],[],[],[],0,0⟩:Mail),[]⟩:G_)) λr1=>
 Cl_ r t1 r1.1
def Bk_(r:RdR)(s:D_)(queues:List T_):Az_×Bool×RdR:=
 Cl_ r queues s
def EqT(i:In)(m:Int)(r:Bs×In):Prop:=P_ i m=r
def EqN(i:In)(m:Int)(r:Int×In):Prop:=R_ i m=r
def EqR(i:In)(m:Int)(r:Bs×In):Prop:=Fm_ i m=r
def EqH(i:In)(r:List Pair×In):Prop:=Bx_ i=r
def EqO(i:In)(r:By_×In):Prop:=Ec_ i=r
theorem book_ok1(r:RdR):∀ (t:List G_) (s:D_),StOk s->StB s->(∀ d∈t,DdG d)->BkOk (Cy_ r t s).1/\BkB (Cy_ r t s).1
 |[],s,hs,hb,_=>⟨hs.1.1,hb.1⟩
 |d::t,s,hs,hb,hd=>by
   rw[Cy_]
   unfold lt
   let R:Az_×Bool×RdR->Prop:=λy=>BkOk y.1/\BkB y.1
   obtain⟨h1,h2,h3,h4,h5,h6⟩:=hd d qB
   refine bt (P:=R) (λ_=>⟨⟨by simp,by simp,λ_ h=>by cases h⟩,(λ_ h=>by cases h),λ_ h=>by cases h⟩) λ_=>?_
   exact book_ok1 r t _ (Uq_ hs h1 h4) (doB ⟨h2,h3⟩ hs h4 h5 h6 hb) λy hy=>hd y (by simp[hy])
theorem book_ok0(r:RdR):∀ (t:List T_) (s:D_),StOk s->StB s->(∀ d∈r.Er_,DdG d)->BkOk (Cl_ r t s).1/\BkB (Cl_ r t s).1
 |[],s,hs,hb,hd=>by rw[Cl_];exact book_ok1 r _ s hs hb hd
 |q::t,s,hs,hb,hd=>by
   rw[Cl_]
   unfold lt
   obtain⟨h1,h2,h3,h4,h5,h6⟩:=ddq q
   exact book_ok0 r t _ (Uq_ hs h1 h4) (doB ⟨h2,h3⟩ hs h4 h5 h6 hb) hd
theorem book_ok(r:RdR)(s:D_)(queues:List T_)(hs:StOk s)(hb:StB s)(hd:∀ d∈r.Er_,DdG d):BkOk (Bk_ r s queues).1/\BkB (Bk_ r s queues).1:=book_ok0 r queues s hs hb hd
theorem nread_err{i:In}(h:(Ec_ i).2.err=0):i.err=0:=by
 unfold Ec_ lt lt1 at h;have h1:=Ai_ (R_ i 8).2 1;have h2:=nread_e0 _ _ _ _ _ _ rV rV rX (h1.2.2.2 rX) h
 revert h2
 have h3:(R_ (R_ i 8).2 1).2.err=0->i.err=0:=λe=>(Oj_ (Oj_ e).1).1;refine bt (P:=λj:In=>j.err=0->i.err=0) (λ_=>h3) λ_=>bt (P:=λj:In=>j.err=0->i.err=0) (λ_ e=>h3 (U6_ e).1) λ_=>bt (P:=λj:In=>j.err=0->i.err=0) (λ_ e=>h3 (U6_ e).1) λ_=>h3
theorem Zq_{i j:In}{l:List G_}(h:DdsG i l)(he:j.err=0->i.err=0):DdsG j l:=λe=>h (he e)
theorem Lw_{i:In}{n:Int}{r:_}{l:List G_}(h:DdsG i l)(h1:R_ i n=r):DdsG r.2 l:=Zq_ h λe=>by subst h1;exact (Oj_ e).1
theorem dds_raw{i:In}{n:Int}{r:_}{l:List G_}(h:DdsG i l)(h1:Fm_ i n=r):DdsG r.2 l:=Zq_ h λe=>by subst h1;exact (Sl_ e).1
theorem dds_notes{i:In}{r:_}{l:List G_}(h:DdsG i l)(h1:Ec_ i=r):DdsG r.2 l:=Zq_ h λe=>by subst h1;exact nread_err e
theorem inEnd_e{i:In}(h:inEnd i=0):i.err=0:=by
 unfold inEnd at h
 split at h
 omega;exact h
def PkOk(x:Ac_):Prop:=StkOk x.E_/\RoB x.E_/\x.notes.kept.length<=32/\NoB x.notes
theorem imOk_of{b:Az_}{x:Ac_}{a:_}{c:_}(h:BkOk b/\BkB b)(k:PkOk x):ImOk ⟨b,x.E_,x.notes,a,c⟩:=⟨h.1,h.2,k⟩
theorem T3_{p:F_}{k:Int}(hp:PoOk p)(hk:0<=k/\k<p.places.length):(gt p.places k.toNat).bytes<=1000000:=by
 have h1:=hp.2.2.2.2.2.2 (gt p.places k.toNat) (Mp_ rV);omega
def G4_(text:Bs)(p:F_)(place:Int)(deeds1:List G_)(r13:I_×Int):Nat->Int->Nat->In->Ac_->Ac_×Int
 |0,_,_,_,_=>default
 | f8+1,e_1,v1,x4,x5=>(bif decide ((v1:Int)<8) then
 lt (R_ x4 8) λr16=>
 lt (R_ r16.2 1) λr17=>
 (bif decide (16<((A8.get (A8.set x5.spent (⟨r16.1,r17.1⟩:Aj_) v1) v1).count)) then
 G4_ text p place deeds1 r13 f8 4 (v1+1) r17.2 (⟨x5.book,x5.E_,x5.notes,x5.seen,(A8.set x5.spent (⟨r16.1,r17.1⟩:Aj_) v1)⟩:Ac_)
 else G4_ text p place deeds1 r13 f8 e_1 (v1+1) r17.2 (⟨x5.book,x5.E_,x5.notes,x5.seen,(A8.set x5.spent (⟨r16.1,r17.1⟩:Aj_) v1)⟩:Ac_))
 else (bif ((!decide ((inEnd x4)=0))||(!decide (e_1=0))) then
 ((⟨(⟨[],[]⟩:Az_),(⟨0,0,[],(⟨(⟨0,[]⟩:Ag_),(⟨0,[]⟩:Ag_),(⟨0,[]⟩:Ag_),(⟨0,[]⟩:Ag_),(⟨0,[]⟩:Ag_),(⟨0,[]⟩:Ag_),(⟨0,[]⟩:Ag_),(⟨0,[]⟩:Ag_),(⟨0,[]⟩:Ag_),(⟨0,[]⟩:Ag_),(⟨0,[]⟩:Ag_),(⟨0,[]⟩:Ag_),(⟨0,[]⟩:Ag_),(⟨0,[]⟩:Ag_),(⟨0,[]⟩:Ag_),(⟨0,[]⟩:Ag_)⟩:A16_RiseR)⟩:I_),(⟨0,[]⟩:By_),(⟨0,0,0,0,0,0,0,0,0,0,0,0,0,0,0,0⟩:A16_u64),(⟨(⟨0,0⟩:Aj_),(⟨0,0⟩:Aj_),(⟨0,0⟩:Aj_),(⟨0,0⟩:Aj_),(⟨0,0⟩:Aj_),(⟨0,0⟩:Aj_),(⟨0,0⟩:Aj_),(⟨0,0⟩:Aj_)⟩:A8_SpentR)⟩:Ac_),4)
 else lt (Bu_ p place) λr18=>
 lt (B1_ (r13.1)) λr19=>
 lt (Bk_ (⟨(),deeds1⟩:RdR) r18 r19) λr20=>
 (bif ((!r20.2.1)||(!decide ((Be_ (⟨(r20.1),x5.E_,x5.notes,x5.seen,x5.spent⟩:Ac_))=text))) then
 ((⟨(⟨[],[]⟩:Az_),(⟨0,0,[],(⟨(⟨0,[]⟩:Ag_),(⟨0,[]⟩:Ag_),(⟨0,[]⟩:Ag_),(⟨0,[]⟩:Ag_),(⟨0,[]⟩:Ag_),(⟨0,[]⟩:Ag_),(⟨0,[]⟩:Ag_),(⟨0,[]⟩:Ag_),(⟨0,[]⟩:Ag_),(⟨0,[]⟩:Ag_),(⟨0,[]⟩:Ag_),(⟨0,[]⟩:Ag_),(⟨0,[]⟩:Ag_),(⟨0,[]⟩:Ag_),(⟨0,[]⟩:Ag_),(⟨0,[]⟩:Ag_)⟩:A16_RiseR)⟩:I_),(⟨0,[]⟩:By_),(⟨0,0,0,0,0,0,0,0,0,0,0,0,0,0,0,0⟩:A16_u64),(⟨(⟨0,0⟩:Aj_),(⟨0,0⟩:Aj_),(⟨0,0⟩:Aj_),(⟨0,0⟩:Aj_),(⟨0,0⟩:Aj_),(⟨0,0⟩:Aj_),(⟨0,0⟩:Aj_),(⟨0,0⟩:Aj_)⟩:A8_SpentR)⟩:Ac_),4)
 else ((⟨(r20.1),x5.E_,x5.notes,x5.seen,x5.spent⟩:Ac_),0))))
def G3_(text:Bs)(p:F_)(place:Int)(deeds1:List G_)(r13:I_×Int):Nat->Nat->In->Ac_->Ac_×Int
 |0,_,_,_=>default
 | f9+1,v,x2,x3=>(bif decide ((v:Int)<16) then
 lt (R_ x2 8) λr15=>
 G3_ text p place deeds1 r13 f9 (v+1) r15.2 (⟨x3.book,x3.E_,x3.notes,(A16.set x3.seen r15.1 v),x3.spent⟩:Ac_)
 else G4_ text p place deeds1 r13 (8-0+1) r13.2 0 x2 x3)
def Hu_(text:Bs)(p:F_)(place:Int):Nat->Int->In->List G_->Ac_×Int
 |0,_,_,_=>default
 | f10+1,n1,x1,deeds1=>(bif ((decide (0<n1))&&(decide (x1.err=0))) then
 lt (P_ x1 16) λr5=>
 lt (P_ ((r5).2) 16) λr6=>
 lt (R_ ((r6).2) 1) λr7=>
 lt (P_ ((r7).2) 64) λr8=>
 lt (Bx_ r8.2) λr9=>
 lt (R_ r9.2 1) λr10=>
 Hu_ text p place f10 (A0 .u64 (n1-1)) r10.2 (deeds1++[(⟨4,0,(⟨[],0,[]⟩:W_),(⟨[],0,0,[]⟩:T_),(⟨(r5).1,(r6).1,decide (((r7).1)=1),r8.1,r9.1,decide (r10.1=1)⟩:O_),[],0,0,0,0,0,(⟨0,[],[],[],[],0,0⟩:Mail),[]⟩:G_)])
 else lt (R_ x1 4) λr11=>
 lt (Fm_ ((r11).2) (A0 .i64 ((r11).1))) λr12=>
 lt (H5_ (r12.1) ((gt p.places ((place).toNat)).bytes)) λr13=>
 lt (Ec_ (r12.2)) λr14=>
 G3_ text p place deeds1 r13 (16-0+1) 0 (r14.2) (⟨(⟨[],[]⟩:Az_),(r13.1),(r14.1),(⟨0,0,0,0,0,0,0,0,0,0,0,0,0,0,0,0⟩:A16_u64),(⟨(⟨0,0⟩:Aj_),(⟨0,0⟩:Aj_),(⟨0,0⟩:Aj_),(⟨0,0⟩:Aj_),(⟨0,0⟩:Aj_),(⟨0,0⟩:Aj_),(⟨0,0⟩:Aj_),(⟨0,0⟩:Aj_)⟩:A8_SpentR)⟩:Ac_))
def Ht_(text:Bs)(p:F_)(place:Int):Nat->Int->In->List G_->Ac_×Int
 |0,_,_,_=>default
 | f11+1,n,x,Er_=>(bif ((decide (0<n))&&(decide (x.err=0))) then
 lt (P_ x 16) λr1=>
 lt (R_ ((r1).2) 1) λr2=>
 lt (P_ ((r2).2) 16) λr3=>
 Ht_ text p place f11 (A0 .u64 (n-1)) r3.2 (Er_++[(⟨0,0,(⟨(r1).1,(r2).1,r3.1⟩:W_),(⟨[],0,0,[]⟩:T_),(⟨[],[],false,[],[],false⟩:O_),[],0,0,0,0,0,(⟨0,[],[],[],[],0,0⟩:Mail),[]⟩:G_)])
 else lt (R_ x 1) λr4=>
 Hu_ text p place ((r4.1).toNat+1) r4.1 r4.2 Er_)
def Hs_(text:Bs)(p:F_)(place:Int):Ac_×Int:=
 lt (R_ (⟨text,0⟩) 1) λr=>
 Ht_ text p place ((r.1).toNat+1) r.1 r.2 []
theorem im_st{s:D_}(h:StOk s)(k:StB s):ImOk (Aa_ s):=⟨h.1.1,k.1,h.1.2.1,k.2.1,h.1.2.2.1,k.2.2⟩
theorem bit_n(b:Bool):(F3_ b).toNat=bitM b:=by cases b<;>rfl
theorem ib0(x:Ac_)(r1:List O_):∀ (t:List W_) (o:Out),(∀ s∈t,P2_ s=0)->Fn_ x r1 t o=Ex_ x r1 (B_ ⟨o.s++t.flatMap shopB,o.err⟩ (r1.length:Int) 1)
 |[],o,_=>by rw[Fn_];simp
 |y::t,o,h=>by
   have hy:=shopE_f (h y qB)
   rw[Fn_,ib0 x r1 t _ (λz hz=>h z pC),Bc_ (s:=y.name) rV,Hr_ (n:=y.sort),Bc_ (s:=y.to') rV]
   simp[shopB,AW]
theorem ib1(x:Ac_):∀ (t:List O_) (o:Out),(∀ y∈t,BiB y)->Ex_ x t o=Ex_ x [] ⟨o.s++t.flatMap bindB,o.err⟩
 |[],o,_=>by simp
 |y::t,o,h=>by
   have hy:=bib_f (h y qB)
   rw[Ex_.eq_2,ib1 x t _ (λz hz=>h z pC),Bc_ (s:=y.Bl_) rV,Bc_ (s:=y.to') rV,Hr_ (n:=F3_ y.up),Bc_ (s:=y.key) rV,Hr_ (n:=F3_ y.all),bit_n,bit_n]
   simp[bindB,Y_,AW]
theorem ib3(x:Ac_):∀ (f v:Nat) (o:Out),8-v<f->∃ z:Bs,Is_ x f v o=o.s++z/\z.length=9*(8-v)
 |0,_,_,h=>by omega
 |f+1,v,o,h=>by
   rw[Is_]
   by_cases e:(v:Int)<8
   . obtain⟨z,h1,h2⟩:=ib3 x f (v+1) (B_ (B_ o ((A8.get x.spent v).round) 8) (A0 .u64 ((A8.get x.spent v).count)) 1) rV
     rw[decide_eq_true e,cond_true,h1,Hr_,L0_]
     exact⟨numB 8 (A8.get x.spent v).round.toNat++(numB 1 (A0 .u64 ((A8.get x.spent v).count)).toNat++z),by simp only[AW],by simp only[A1,Z_,h2];omega⟩
   . rw[decide_eq_false e,cond_false]
     exact⟨[],by simp,by simp;omega⟩
theorem ib2(x:Ac_):∀ (f v:Nat) (o:Out),16-v<f->∃ z:Bs,Ir_ x f v o=o.s++z/\z.length=8*(16-v)+72
 |0,_,_,h=>by omega
 |f+1,v,o,h=>by
   rw[Ir_]
   by_cases e:(v:Int)<16
   . obtain⟨z,h1,h2⟩:=ib2 x f (v+1) (B_ o (A16.get x.seen v) 8) rV
     rw[decide_eq_true e,cond_true,h1,L0_]
     exact⟨numB 8 (A16.get x.seen v).toNat++z,by simp only[AW],by simp only[A1,Z_,h2];omega⟩
   . rw[decide_eq_false e,cond_false]
     obtain⟨z,h1,h2⟩:=ib3 x (8-0+1) 0 o rV
     exact⟨z,h1,by omega⟩
theorem nb_eq0:∀ (t:List Ea_) (o:Out),(∀ y∈t,y.text.length<=64)->Bs_ t o=o.s++t.flatMap noteB
 |[],o,_=>by simp[Bs_]
 |y::t,o,h=>by
   have hy:=h y qB
   rw[Bs_,nb_eq0 t _ (λz hz=>h z pC),Hr_,L0_,Bc_ rV]
   simp[noteB,AW]
theorem nb_eq{n:By_}(h:NoB n):Du_ n=Y3_ n:=by
 unfold Du_;rw[nb_eq0 _ _ (λy hy=>(h y hy).1),Hr_,L0_];simp[Y3_]
theorem ib_eq{x:Ac_}(h:ImOk x):∃ z:Bs,z.length=200/\Be_ x=bookB x.book++(numB 4 (B4_ x.E_).length++(B4_ x.E_++(Y3_ x.notes++z))):=by
 obtain⟨h1,h2,h3,h4,h5,h6⟩:=h;unfold Be_ lt;rw[binds_id,shops_eq];dsimp only;rw[ib0 _ _ _ _ (λs hs=>(h2.1 s hs).1),Hr_,Hr_,ib1 _ _ _ h2.2,Ex_];unfold lt;dsimp only;obtain⟨z,e1,e2⟩:=ib2 x (16-0+1) 0 (Y_ (Y_ (B_ ⟨([]++numB 1 (x.book.D3_.length:Int).toNat++x.book.D3_.flatMap shopB++numB 1 (x.book.binds.length:Int).toNat)++x.book.binds.flatMap bindB,0⟩ ((B4_ x.E_).length:Int) 4) (B4_ x.E_)) (Du_ x.notes)) rV;refine⟨z,by omega,?_⟩;refine e1.trans ?_;rw[outNum4,nb_eq h6];simp[Y_,bookB,AW]
theorem im_pos{x:Ac_}(h:ImOk x):0<(Be_ x).length:=by
 obtain⟨z,h1,h2⟩:=ib_eq h;rw[h2];simp only[A1];omega
end Go.SW.V
namespace Go.SW
structure Au_ where
 store:D_
 log:Dy_
deriving Inhabited
end Go.SW
namespace Go.SW.V
open Go.SW
def Lj_(l:Dy_):Int×Dy_:=
 lt (Fv_ l) λr=>
 (bif ((!decide (r=0))||(decide (l.waits=[]))) then
 (r,l)
 else lt (Ap_ l l.Bj_ (1+((l.done.length:Int)/64)) 0 ((l.done.drop ((((l.done.length:Int)/64)*64)).toNat)++l.waits)) λr1=>
 (bif !decide (r1.1=0) then
 (r1.1,r1.2)
 else (0,(⟨r1.2.d,r1.2.Bj_,r1.2.gen,r1.2.ready,r1.2.broken,(r1.2.done++r1.2.waits),[]⟩:Dy_))))
def Ay_(v:Au_):Ac_:=
 lt (Aa_ v.store) λr=>
 r
def Fu_(v:Au_):Int×Au_:=
 lt (Lj_ v.log) λr=>
 (r.1,(⟨v.store,r.2⟩:Au_))
def Ab_(v:Au_)(l:List G_):List G_->Nat->List Af_->D_->(List Af_)×Int×Int×Au_
 |[],k,out,x=>lt (B9_ l) λr2=>
 (bif !decide (r2.2=0) then
 ([],0,r2.2,v)
 else lt (A2_ v.log [r2.1]) λr3=>
 (bif decide (r3.1=17) then
 lt (Aa_ x) λr4=>
 lt (Bb_ r3.2 (Be_ r4)) λr5=>
 (bif !decide (r5.1=0) then
 ([],0,r5.1,(⟨v.store,r5.2⟩:Au_))
 else (out,0,0,(⟨x,r5.2⟩:Au_)))
 else (bif !decide (r3.1=0) then
 ([],0,r3.1,(⟨v.store,r3.2⟩:Au_))
 else (out,0,0,(⟨x,r3.2⟩:Au_)))))
 |x1::t,k,out,x=>lt (K_ x x1) λr1=>
 (bif !decide (r1.2.2=0) then
 ([],(k:Int),r1.2.2,v)
 else Ab_ v l t (k+1) (out++[r1.2.1]) r1.1)
def A4_(v:Au_)(l:List G_):(List Af_)×Int×Int×Au_:=
 lt (Ep_ v.log) λr=>
 (bif !r then
 ([],0,21,v)
 else (bif decide (255<(l.length:Int)) then
 ([],0,6,v)
 else Ab_ v l l 0 [] v.store))
theorem vall_l0(v:Au_)(l:List G_):∀ (t:List G_) (k:Nat) (out:List Af_) (x:D_),(Ab_ v l t k out x).2.2.1=0->(Ab_ v l t k out x).1.length=out.length+t.length
 |[],k,out,x=>by
   rw[Ab_.eq_1];unfold lt
   by_cases h1:(B9_ l).2=0
   . simp only[h1,decide_true,A5,cond_false]
     by_cases h2:(A2_ v.log [(B9_ l).1]).1=17
     . simp only[h2,decide_true,cond_true]
       by_cases h3:(Bb_ (A2_ v.log [(B9_ l).1]).2 (Be_ (Aa_ x))).1=0
       . simp only[h3,decide_true,A5,cond_false];intro _;rfl
       . simp only[h3,decide_false,AF,cond_true];exact wA
     . by_cases h3:(A2_ v.log [(B9_ l).1]).1=0
       . simp only[h2,h3,decide_true,decide_false,A5,cond_false];intro _;rfl
       . simp only[h2,h3,decide_false,AF,cond_false,cond_true];exact wA
   . exact sK
 |d::t,k,out,x=>by
   rw[Ab_.eq_2];unfold lt
   by_cases h1:(K_ x d).2.2=0
   . simp only[h1,decide_true,A5,cond_false]
     intro h
     have :=vall_l0 v l t (k+1) (out++[(K_ x d).2.1]) (K_ x d).1 h
     rw[this];exact sC
   . exact sK
theorem vall_len(v:Au_)(l:List G_):(A4_ v l).2.2.1≠0\/(A4_ v l).1.length=l.length:=by
 by_cases h:(A4_ v l).2.2.1=0
 . right
   unfold A4_ lt at h ⊢
   cases hr:Ep_ v.log with
   |false=>rw[hr] at h;simp at h
   |true=>
     rw[hr] at h
     by_cases h2:255<(l.length:Int)
     . simp[h2] at h
     . simp only[h2,decide_false,A5,cond_false] at h ⊢
       have :=vall_l0 v l l 0 [] v.store h
       exact sT
 exact .inl h
theorem vall_one(v:Au_)(d:G_):(A4_ v [d]).2.2.1≠0\/(A4_ v [d]).1.length=1:=vall_len v [d]
def D0_(v:Au_)(d:G_):Af_×Int×Au_:=
 lt (A4_ v [d]) λr=>
 (bif !decide (r.2.2.1=0) then
 ((⟨(⟨(⟨0,[],[],[],[],0,0⟩:Mail),false,false⟩:V_),0,0⟩:Af_),r.2.2.1,r.2.2.2)
 else ((gt r.1 0),0,r.2.2.2))
def iz:List V_->Int
 |[]=>0
 |x::l=>Dt_ x.Ad_+iz l
def rz:List Hh_->Int
 |[]=>0
 |x::l=>iz x.l.items+rz l
def uz(a:A16_RiseR):Nat->Int
 |0=>0
 |n+1=>B8_ (A16.get a (15-n))+uz a n
theorem lsize_eq0:∀ (t:List V_) (n:Int),Cb_ t n=n+iz t
 |[],n=>by simp[Cb_,iz]
 |x::t,n=>by
   unfold Cb_ lt
   dsimp only
   rw[lsize_eq0 t]
   simp only[iz];omega
theorem lsize_eq(l:As_):Fp_ l=iz l.items:=by
 unfold Fp_;rw[lsize_eq0];omega
theorem ksize_eq1(s:I_):∀ (f:Nat) (n:Int) (k:Nat),k<=16->k<f->Dh_ s f n (16-k)=n+uz s.rises k
 |0,n,k,_,h=>by omega
 |f+1,n,0,_,_=>by
   unfold Dh_
   simp[uz]
 |f+1,n,k+1,h1,h2=>by
   unfold Dh_ lt
   rw[decide_eq_true (show ((16-(k+1):Nat):Int)<16 by omega),cond_true]
   have :=ksize_eq1 s f (n+B8_ (A16.get s.rises (16-(k+1)))) k rV rV
   dsimp only
   rw[show 16-(k+1)+1=16-k by omega,this]
   simp only[uz]
   rw[show 16-(k+1)=15-k by omega]
   omega
theorem ksize_eq0(s:I_):∀ (t:List Hh_) (n:Int),Br_ s t n=n+rz t+uz s.rises 16
 |[],n=>by
   unfold Br_
   have :=ksize_eq1 s (16-0+1) n 16 rV rV
   rw[this];simp[rz]
 |x::t,n=>by
   unfold Br_ lt
   dsimp only
   rw[ksize_eq0 s t,lsize_eq]
   simp only[rz];omega
theorem ksize_eq(s:I_):C5_ s=rz s.rows+uz s.rises 16:=by
 unfold C5_;rw[ksize_eq0];omega
theorem uz_far(a:A16_RiseR)(v:Ag_)(m:Nat)(hm:m<16):∀ k,k<=16->k<16-m->uz (A16.set a v m) k=uz a k
 |0,_,_=>rfl
 |k+1,h1,h2=>by
   simp only[uz]
   rw[uz_far a v m hm k rV rV,A16.get_set _ _ _ _ hm rV,if_neg rV]
theorem uz_set(a:A16_RiseR)(v:Ag_)(m:Nat)(hm:m<16):∀ k,k<=16->16-m<=k->uz (A16.set a v m) k=uz a k-B8_ (A16.get a m)+B8_ v
 |0,_,h=>by omega
 |k+1,h1,h2=>by
   simp only[uz]
   rw[A16.get_set _ _ _ _ hm rV]
   by_cases q:15-k=m
   . subst q
     rw[if_pos rfl,uz_far a v (15-k) hm k rV rV];omega
   . rw[if_neg q,uz_set a v m hm k rV rV];omega
theorem Yv_:∀ a b:List V_,iz (a++b)=iz a+iz b
 |[],b=>by simp[iz]
 |x::a,b=>by simp only[FI,iz,Yv_ a b];omega
theorem rz_app:∀ a b:List Hh_,rz (a++b)=rz a+rz b
 |[],b=>by simp[rz]
 |x::a,b=>by simp only[FI,rz,rz_app a b];omega
theorem iz_nn:∀ l:List V_,0<=iz l
 |[]=>BP _
 |x::l=>by
   have :=iz_nn l
   have :=(Xr_ x.Ad_).1
   simp only[iz];omega
theorem rz_set:∀ (l:List Hh_) (k:Nat) (x:Hh_),k<l.length->rz (l.set k x)=rz l-iz (gt l k).l.items+iz x.l.items
 |[],k,x,h=>by cases h
 |y::l,0,x,h=>by
   have e:gt (y::l) 0=y:=rfl
   simp only[F8,rz,e];omega
 |y::l,k+1,x,h=>by
   have :=rz_set l k x qU
   have e:gt (y::l) (k+1)=gt l k:=by simp[gt]
   simp only[D1,rz,e];omega
theorem rz_cut(l:List Hh_)(k:Nat):rz (l.take k++l.drop (k+1))<=rz l:=by
 conv=>rhs;rw[<- B9 k l]
 rw[rz_app,rz_app]
 cases e:l.drop k with
 |nil=>
   have :l.drop (k+1)=[]:=by
     rw[ET] at e ⊢;omega
   rw[this];omega
 |cons x t=>
   have :l.drop (k+1)=t:=by
     exact xI
   rw[this]
   have :=iz_nn x.l.items
   simp only[rz];omega
theorem iz_set:∀ (l:List V_) (k:Nat) (x:V_),x.Ad_=(gt l k).Ad_->iz (l.set k x)=iz l
 |[],k,x,_=>rfl
 |y::l,0,x,h=>by
   have e:gt (y::l) 0=y:=rfl
   rw[e] at h
   simp only[F8,iz,h]
 |y::l,k+1,x,h=>by
   have e:gt (y::l) (k+1)=gt l k:=by simp[gt]
   rw[e] at h
   simp only[D1,iz,iz_set l k x h]
theorem iz_cut(l:List V_)(k:Nat):iz (l.take k++l.drop (k+1))<=iz l:=by
 conv=>rhs;rw[<- B9 k l]
 rw[Yv_,Yv_]
 cases e:l.drop k with
 |nil=>
   have :l.drop (k+1)=[]:=by
     rw[ET] at e ⊢;omega
   rw[this];omega
 |cons x t=>
   have :l.drop (k+1)=t:=by
     exact xI
   rw[this]
   have :=(Xr_ x.Ad_).1
   simp only[iz];omega
theorem llend_iz(l:As_):iz (Eb_ l).1.items=iz l.items:=by
 unfold Eb_ lt;let Q:As_×V_×Bool->Prop:=λr=>iz r.1.items=iz l.items;exact bt (P:=Q) (λ_=>rfl) λ_=>iz_set _ _ _ Z
theorem lrem_iz(l:As_)(id:Int):iz (A9_ l id).1.items<=iz l.items:=by
 unfold A9_ lt;let Q:As_×V_×Int->Prop:=λr=>iz r.1.items<=iz l.items;refine bt (P:=Q) (λ_=>BP _) λe=>?_;simp only[decide_eq_false_iff_not] at e;have :(D2_ l id+1).toNat=(D2_ l id).toNat+1:=by omega
 show iz ([(l.items.take (D2_ l id).toNat),(l.items.drop (D2_ l id+1).toNat)].flatten)<=_;rw[this];simp only[AN,AU,AT];exact iz_cut _ _
def KOk(b:Int)(k:I_):Prop:=k.bytes=b/\rz k.rows+uz k.rises 16<=b
theorem rz_set_le(l:List Hh_)(k:Nat)(x:Hh_)(h:iz x.l.items<=iz (gt l k).l.items):rz (l.set k x)<=rz l:=by
 by_cases q:k<l.length;rw[rz_set l k x q];omega;rw[E4 rV];exact BP _
theorem kwith_k{b:Int}{s:I_}{k:Int}{l:As_}(h:KOk b s)(hl:iz l.items<=iz (gt s.rows k.toNat).l.items):KOk b (A5_ s k l):=by
 refine⟨h.1,?_⟩;have :=h.2;have :=rz_set_le s.rows k.toNat ⟨(gt s.rows k.toNat).q,l⟩ hl;show rz (s.rows.set _ _)+uz s.rises 16<=b;omega
theorem kmake_k{b:Int}{s:I_}{q:T_}(h:KOk b s):KOk b (Ba_ s q).1:=by
 unfold Ba_ lt;let Q:I_×Int->Prop:=λr=>KOk b r.1;refine bt (P:=Q) (λ_=>h) λ_=>bt (P:=Q) (λ_=>h) λ_=>bt (P:=Q) (λ_=>h) λ_=>bt (P:=Q) (λ_=>h) λ_=>⟨h.1,?_⟩;show rz ([s.rows,[⟨q,⟨[]⟩⟩]].flatten)+_<=b;simp only[AN,AU,AT,rz_app,rz,iz];have :=h.2;show _+uz s.rises 16<=b;omega
theorem kdrop_k{b:Int}{s:I_}{n:Bs}(h:KOk b s):KOk b (C4_ s n).1:=by
 unfold C4_ lt;let Q:I_×Int->Prop:=λr=>KOk b r.1;refine bt (P:=Q) (λ_=>h) λe=>⟨h.1,?_⟩;simp only[decide_eq_false_iff_not] at e;have e1:(An_ s n+1).toNat=(An_ s n).toNat+1:=by omega
 show rz ([(s.rows.take (An_ s n).toNat),(s.rows.drop (An_ s n+1).toNat)].flatten)+uz s.rises 16<=b;rw[e1];simp only[AN,AU,AT];have :=rz_cut s.rows (An_ s n).toNat;have :=h.2;omega
theorem klend_k{b:Int}{s:I_}{n:Bs}(h:KOk b s):KOk b (Ct_ s n).1:=by
 unfold Ct_ lt;let Q:I_×V_×Bool->Prop:=λr=>KOk b r.1;exact bt (P:=Q) (λ_=>h) λ_=>kwith_k h (GC (llend_iz _))
theorem krem_k{b:Int}{s:I_}{n:Bs}{id:Int}(h:KOk b s):KOk b (At_ s n id).1:=by
 unfold At_ lt;let Q:I_×V_×Int->Prop:=λr=>KOk b r.1;exact bt (P:=Q) (λ_=>h) λ_=>kwith_k h (lrem_iz _ _)
theorem iz_set2(l:List V_)(k:Nat)(a b c d:Bool):iz ((l.set k ⟨(gt l k).Ad_,a,b⟩).set k ⟨(gt (l.set k ⟨(gt l k).Ad_,a,b⟩) k).Ad_,c,d⟩)=iz l:=
 (iz_set (l.set k ⟨(gt l k).Ad_,a,b⟩) k ⟨(gt (l.set k ⟨(gt l k).Ad_,a,b⟩) k).Ad_,c,d⟩ Z).trans (iz_set l k ⟨(gt l k).Ad_,a,b⟩ Z)
theorem lback_iz(l:As_)(id:Int):iz (Fo_ l id).1.items=iz l.items:=by
 unfold Fo_ lt;let Q:As_×Int->Prop:=λr=>iz r.1.items=iz l.items;refine bt (P:=Q) (λ_=>rfl) λ_=>bt (P:=Q) (λ_=>rfl) λ_=>?_;exact iz_set2 _ _ _ _ _ _
theorem W8_:∀ (t:List V_) (k:Nat) (x:As_),iz (C2_ t k x).items=iz x.items
 |[],k,x=>rfl
 |y::t,k,x=>by
   unfold C2_
   let Q:As_->Prop:=λr=>iz r.items=iz x.items
   exact bt (P:=Q) (λ_=>(W8_ t _ _).trans (iz_set2 _ _ _ _ _ _)) λ_=>W8_ t _ _
theorem lwake_iz(l:As_):iz (Hc_ l).items=iz l.items:=W8_ _ _ _
theorem kback_k{b:Int}{s:I_}{n:Bs}{id:Int}(h:KOk b s):KOk b (Dp_ s n id).1:=by
 unfold Dp_ lt;let Q:I_×Int->Prop:=λr=>KOk b r.1;exact bt (P:=Q) (λ_=>h) λ_=>kwith_k h (GC (lback_iz _ _))
theorem kraise_k{b:Int}{s:I_}{p:Int}{m:Mail}(h:KOk b s):KOk b (Cf_ s p m).1:=by
 unfold Cf_ lt;let Q:I_×Int->Prop:=λr=>KOk b r.1;refine bt (P:=Q) (λ_=>h) λe1=>?_;simp only[AG,decide_eq_false_iff_not] at e1;refine bt (P:=Q) (λ_=>h) λ_=>bt (P:=Q) (λ_=>h) λe=>⟨h.1,?_⟩;simp only[decide_eq_false_iff_not] at e;rw[ksize_eq] at e;have h1:=h.1;show rz s.rows+uz (A16.set s.rises _ p.toNat) 16<=b;rw[uz_set _ _ _ rV 16 rV rV];omega
theorem kwake_k0{b:Int}:∀ (t:List Hh_) (k:Nat) (x:I_),KOk b x->(∀ i,i<t.length->gt x.rows (k+i)=gt t i)->KOk b (Ci_ t k x)
 |[],k,x,h,_=>h
 |y::t,k,x,h,hr=>by
   unfold Ci_ lt
   have h0:gt x.rows k=y:=hr 0 qB
   refine kwake_k0 t (k+1) _ (kwith_k h (by rw[lwake_iz];rw[AV,h0];exact BP _)) λi hi=>?_
   show gt (x.rows.set ((k:Int)).toNat _) (k+1+i)=_
   rw[AV]
   have :gt (x.rows.set k ⟨(gt x.rows k).q,Hc_ y.l⟩) (k+1+i)=gt x.rows (k+1+i):=by
     simp only[gt,BF]
     rw[List.getElem?_set_ne rV]
   rw[this,show k+1+i=k+(i+1) by omega,hr (i+1) qK]
   simp[gt]
theorem kwake_k{b:Int}{s:I_}(h:KOk b s):KOk b (Ff_ s):=kwake_k0 s.rows 0 s h λi _=>by rw[Nat.zero_add]
theorem lrem_eq{l:As_}(h:LnOk l){k:Nat}(hk:k<l.items.length):iz (A9_ l (gt l.items k).Ad_.id).1.items+Dt_ (gt l.items k).Ad_=iz l.items:=by
 unfold A9_ lt;dsimp only;rw[lof_self h hk];have e:decide ((k:Int)<0)=false:=by simp
 rw[e,cond_false];show iz ([(l.items.take ((k:Int)).toNat),(l.items.drop ((k:Int)+1).toNat)].flatten)+_=_;rw[show ((k:Int)+1).toNat=k+1 by omega,AV];simp only[AN,AU,AT]
 conv=>rhs;rw[<- B9 k l.items]
 rw[Yv_,Yv_];have e2:l.items.drop k=gt l.items k::l.items.drop (k+1):=by
   rw[DY hk]
   simp[gt,hk]
 rw[e2];simp only[iz];omega
theorem ladd_iz{l:As_}{m:Mail}(e:(Dm_ l m).2=0):iz (Dm_ l m).1.items=iz l.items+Dt_ m:=by
 revert e
 unfold Dm_ Gd_ lt;dsimp only;let Q:As_×Int->Prop:=λr=>r.2=0->iz r.1.items=iz l.items+Dt_ m;refine bt (P:=Q) (λe h=>?_) λ_ _=>?_;exact tW;show iz ([l.items,[Cw_ ⟨m,false,false⟩]].flatten)=_;simp only[AN,AU,AT,Yv_,iz];rw[show (Cw_ ⟨m,false,false⟩).Ad_=m from rfl];omega
theorem zsize:Dt_ ⟨0,[],[],[],[],0,0⟩=0:=by decide +kernel
theorem kput_k{b:Int}{s:I_}{n:Bs}{m:Mail}(hs:StkOk s)(h:KOk b s):KOk b (A8_ s n m).1:=by
 unfold A8_ lt;let Q:I_×Int×Mail×Int->Prop:=λr=>KOk b r.1;refine bt (P:=Q) (λ_=>h) λe=>?_;refine bt (P:=Q) (λ_=>h) λ_=>?_;refine bt (P:=Q) (λ_=>h) λ_=>?_;simp only[decide_eq_false_iff_not] at e;have hb:=at_b s n;obtain⟨k,hk⟩:∃ k:Nat,An_ s n=k:=⟨_,(C6 rV).symm⟩;rw[hk] at hb ⊢;simp only[AV];have hl:LnOk (gt s.rows k).l:=RwsOk.at hs.1 (getG rV);refine lp2E (P:=Q) (λq=>iz q.1.items+Dt_ q.2=iz (gt s.rows k).l.items) ?_ λx x1 hx=>?_;refine bt (P:=LoP _ _) (λ_=>?_) λ_=>by show iz (gt s.rows k).l.items+Dt_ ⟨0,[],[],[],[],0,0⟩=_;rw[zsize];omega
 refine bt (P:=LoP _ _) (λ_=>h) λe2=>?_;obtain⟨j,hj,he⟩:=lfirst_at (l:=(gt s.rows k).l) (by simpa using e2);show iz _+Dt_ _=_;rw[he];exact lrem_eq hl hj;refine bt (P:=Q) (λ_=>h) λe3=>bt (P:=Q) (λ_=>h) λe4=>⟨h.1,?_⟩;simp only[decide_eq_false_iff_not] at e3;have e4':(Dm_ x ⟨s.next,m.Bl_,m.key,m.head,m.body,m.due,m.hops⟩).2=0:=by simpa using e4
 have h4:=ladd_iz e4';unfold Gt_ at e3;rw[ksize_eq] at e3;have h1:=h.1;have hx':iz x.items+Dt_ x1=iz (gt s.rows k).l.items:=hx;show rz (s.rows.set ((k:Int)).toNat _)+uz s.rises 16<=b;rw[AV,rz_set _ _ _ rV];dsimp only;omega
structure Hk(s0 s:D_):Prop where
 po:s.U_=s0.U_
 pl:s.place=s0.place
 se:s.x.seen=s0.x.seen
 k:KOk s0.x.E_.bytes s.x.E_
variable{s0 s:D_}
theorem Hk.E_(h:Hk s0 s){k:I_}(hk:KOk s0.x.E_.bytes k):Hk s0 ⟨⟨s.x.book,k,s.x.notes,s.x.seen,s.x.spent⟩,s.U_,s.place⟩:=⟨h.po,h.pl,h.se,hk⟩
theorem Hk.note(h:Hk s0 s)(t k:Int)(x:Bs):Hk s0 (Cu_ s t k x):=⟨h.po,h.pl,h.se,h.k⟩
theorem Hk.spend(h:Hk s0 s)(to' t:Int):Hk s0 (C8_ s to' t).1:=by
 unfold C8_ lt;let Q:D_×Int->Prop:=λr=>Hk s0 r.1;refine bt (P:=Q) (λ_=>h) λ_=>?_;exact lt1E (P:=Q) (λ_=>True) U λx _=>bt (P:=Q) (λ_=>h) λ_=>⟨h.po,h.pl,h.se,h.k⟩
section
variable{m:Mail}{tick:Int}{r:List Bs×List Bs×Int}
theorem send1_h{gone:List H2_}(hs:Hk s0 s):∀ (t:List Bs) (n:Int) (x:D_),Hk s0 x->Hk s0 (Bg_ s m tick r gone t n x).1
 |[],n,x,hx=>hx
 |q::t,n,x,hx=>by
   unfold Bg_ lt
   let Q:D_×List H2_×Int×Int->Prop:=λr=>Hk s0 r.1
   refine lp1E (P:=Q) (Hk s0) ?_ λy hy=>?_
   . refine bt (P:=LoP _ _) (λ_=>?_) λ_=>hx
     exact bt (P:=LoP _ _) (λ_=>hs) λ_=>hx.spend _ _
   . exact bt (P:=Q) (λ_=>hs) λ_=>send1_h hs t _ _ (hy.E_ (kraise_k hy.k))
theorem send0_h(hs:Hk s0 s)(h0:0<=m.hops):∀ (t:List Bs) (gone:List H2_) (n:Int) (x:D_),StOk x->Hk s0 x->Hk s0 (Ao_ s m tick r t gone n x).1
 |[],gone,n,x,_,hx=>by
   unfold Ao_
   exact send1_h hs _ _ _ hx
 |q::t,gone,n,x,ho,hx=>by
   unfold Ao_ lt
   let Q:D_×List H2_×Int×Int->Prop:=λr=>Hk s0 r.1
   refine bt (P:=Q) (λ_=>send0_h hs h0 t _ _ x ho hx) λ_=>?_
   generalize Lv_ m.due tick (Ax_ x.x.E_ q).1.life=due
   have hp:=(kput_ok (s:=x.x.E_) (n:=q) (m:=⟨0,m.Bl_,m.key,m.head,m.body,due,m.hops⟩) ho.stk h0).1
   have hk:=kput_k (n:=q) (m:=⟨0,m.Bl_,m.key,m.head,m.body,due,m.hops⟩) ho.stk hx.k
   refine bt (P:=Q) (λ_=>hs) λ_=>?_
   exact bt (P:=Q) (λ_=>send0_h hs h0 t _ _ _ (Ca_ ho hp) (hx.E_ hk)) λ_=>send0_h hs h0 t _ _ _ (Ca_ ho hp) (hx.E_ hk)
theorem send_h(ho:StOk s)(hs:Hk s0 s)(h0:0<=m.hops):Hk s0 (Ah_ s m tick).1:=by
 unfold Ah_ lt;let Q:D_×List H2_×Int×Int->Prop:=λr=>Hk s0 r.1;exact bt (P:=Q) (λ_=>hs) λ_=>send0_h hs h0 _ _ _ _ ho hs
end
theorem Zj_(tick:Int):∀ (f:Nat) (gone:List H2_) (lost:Int) (x:D_),Uo_ gone lost x->wtk x.x.E_+wto gone<f->Hk s0 x->Hk s0 (Ck_ tick f gone lost x).1
 |0,_,_,_,_,h,_=>by omega
 |f+1,gone,lost,x,hI,hf,hx=>by
   unfold Ck_ lt
   let Q:D_×Int->Prop:=λr=>Hk s0 r.1
   refine bt (P:=Q) (λe=>?_) λ_=>hx
   have hn:0<gone.length:=by simpa using e
   refine bt (P:=Q) (λ_=>Zj_ tick f _ _ _ (Tk_ hI hn) (Vl_ hn hf) hx) λ_=>?_
   have hm:MlOk (gt gone 0).Ad_:=hI.2.1 _ (Mp_ hn)
   refine bt (P:=Q) (λ_=>?_) λe4=>?_
   . have h:=Lb_ (s:=x) (t:=tick) (k:=1) (x:=(gt gone 0).queue) hI.1
     exact Zj_ tick f _ _ _ (Tl_ hI h.1 h.2 hn) (Yk_ h.2 hn hf) (hx.note _ _ _)
   . simp only[AG,decide_eq_false_iff_not,AX,decide_eq_true_eq] at e4
     have hs:=L1_ (s:=x) (m:=⟨(M_ (gt gone 0).Ad_).id,(Ax_ x.x.E_ (gt gone 0).queue).1.dead,(M_ (gt gone 0).Ad_).key,(M_ (gt gone 0).Ad_).head,(M_ (gt gone 0).Ad_).body,0,A0 .u8 ((M_ (gt gone 0).Ad_).hops+1)⟩) (tick:=tick) hI.1 (Lg_ _)
     exact Zj_ tick f _ _ _ (Tm_ hI hs.1 hs.2.1 hn Z hm e4.1 hs.2.2 Z e4.2) (Vm_ hn hf Z hm e4.1 hs.2.2 Z e4.2) (send_h hI.1 hx (Lg_ _))
theorem bury_h{gone:List H2_}{tick:Int}(h:StOk s)(hg:gone.length<=600/\∀ g∈gone,MlOk g.Ad_)(hs:Hk s0 s):Hk s0 (Cj_ s gone tick).1:=
 Zj_ tick _ gone 0 s (buryI0 h hg) (BN _) hs
section
variable{d:G_}
theorem settle_h(h:StOk s)(hs:Hk s0 s):Hk s0 (Cv_ s d).1:=by
 unfold Cv_ lt;let Q:D_×Af_×Int->Prop:=λr=>Hk s0 r.1;refine bt (P:=Q) (λ_=>hs) λ_=>?_;refine bt (P:=Q) (λ_=>hs.E_ (kback_k hs.k)) λ_=>?_;have hr:=Kf_ (n:=d.name) (id:=d.id) h.stk;refine bt (P:=Q) (λ_=>bury_h (Ca_ h hr.1) ⟨by simp,λg hg=>?_⟩ (hs.E_ (krem_k hs.k))) λ_=>hs.E_ (krem_k hs.k);exact tF
theorem late_h0{t:Int}:∀ (f:Nat) (gone:List H2_) (x:D_),StOk x->(∀ g∈gone,MlOk g.Ad_)->gone.length+nik x.x.E_<=512->nik x.x.E_<f->Hk s0 x->Hk s0 (Di_ t f gone x).1
 |0,_,_,_,_,_,h,_=>by omega
 |f+1,gone,x,h,hg,hl,hf,hs=>by
   unfold Di_ lt
   let Q:D_×Af_->Prop:=λr=>Hk s0 r.1
   refine bt (P:=Q) (λ_=>bury_h h ⟨by omega,hg⟩ hs) λe=>?_
   have e':(Ar_ x.x.E_ t).2.2=true:=by simpa using e
   have hr:=Kf_ (n:=(Ar_ x.x.E_ t).1) (id:=(Ar_ x.x.E_ t).2.1.id) h.stk
   refine late_h0 f _ _ (Ca_ h hr.1) (λg q=>?_) (late_in h.stk Z e' Z hl) (late_mu h.stk Z e' Z hf) (hs.E_ (krem_k hs.k))
   rcases List.mem_append.1 q with q|q
   . exact hg g q
   . exact tG
theorem late_h{t:Int}(h:StOk s)(hs:Hk s0 s):Hk s0 (F0_ s t).1:=
 late_h0 _ [] s h (λ_ h=>by cases h) oD (BN _) hs
theorem put_h(h:StOk s)(h0:0<=d.Ad_.hops)(hs:Hk s0 s):Hk s0 (D8_ s d).1:=by
 unfold D8_ lt;let Q:D_×Af_×Int->Prop:=λr=>Hk s0 r.1;have h1:=L1_ (s:=s) (m:=M_ d.Ad_) (tick:=d.tick) h h0;have hl:=Mb_ (s:=s) (m:=M_ d.Ad_) (tick:=d.tick) h;exact bt (P:=Q) (λ_=>hs) λ_=>bury_h h1.1 ⟨by omega,h1.2.1⟩ (send_h h hs h0)
theorem queues_h(hs:Hk s0 s):Hk s0 (B2_ s d).1:=by
 unfold B2_ lt;let Q:D_×Int->Prop:=λr=>Hk s0 r.1;refine bt (P:=Q) (λ_=>hs.E_ (kmake_k hs.k)) λ_=>?_;exact bt (P:=Q) (λ_=>⟨hs.po,hs.pl,hs.se,kdrop_k hs.k⟩) λ_=>hs.E_ (kdrop_k hs.k)
theorem lend_h(hs:Hk s0 s):Hk s0 (C6_ s d).1:=by
 unfold C6_ lt;let Q:D_×Af_×Int->Prop:=λr=>Hk s0 r.1;refine bt (P:=Q) (λ_=>hs) λ_=>?_;exact bt (P:=Q) (λ_=>hs) λ_=>hs.E_ (klend_k hs.k)
theorem shops_h(hs:Hk s0 s):Hk s0 (Cg_ s d).1:=by
 unfold Cg_ lt;let Q:D_×Int->Prop:=λr=>Hk s0 r.1;have hn:∀ e,Q (s,e):=λe=>hs;have hb:∀ b e,Q (⟨⟨b,s.x.E_,s.x.notes,s.x.seen,s.x.spent⟩,s.U_,s.place⟩,e):=λb e=>⟨hs.po,hs.pl,hs.se,hs.k⟩;refine bt (P:=Q) (λ_=>?_) λ_=>?_;refine lp0E (P:=Q) (λ_=>True) ?_ λ_=>hb _ _;refine bt (P:=LoP _ _) (λ_=>?_) λ_=>trivial;exact wD;refine bt (P:=Q) (λ_=>hb _ _) λ_=>?_;refine bt (P:=Q) (λ_=>hb _ _) λ_=>?_;refine lp0E (P:=Q) (λ_=>True) ?_ λ_=>hb _ _;exact rT
end
end Go.SW.V
namespace Go.SW.V
open Go.SW
def seenS(s:D_)(d:G_):D_:=⟨⟨s.x.book,s.x.E_,s.x.notes,A16.set s.x.seen d.number d.frm.toNat,s.x.spent⟩,s.U_,s.place⟩
def PlA(s:D_)(d:G_):Prop:=d.frm<s.U_.places.length/\(F8_ s.U_ d.frm s.place=true\/0<=Bf_ s.U_ d.frm s.place)
def PlP(s:D_)(d:G_)(r:D_×Af_×Int):Prop:=(r.2.2≠0/\r.1=s)\/(r.2.2=0/\PlA s d/\A16.get s.x.seen d.frm.toNat<d.number/\Hk (seenS s d) r.1)
variable{s:D_}{d:G_}
theorem pull_h(h:StOk s)(hk:KOk s.x.E_.bytes s.x.E_):PlP s d (C7_ s d):=by
 unfold C7_ lt;refine bt (P:=PlP s d) (λ_=> .inl ⟨(by decide :(10:Int)≠0),rfl⟩) λe1=>?_;refine bt (P:=PlP s d) (λ_=> .inl ⟨(by decide :(11:Int)≠0),rfl⟩) λe2=>?_;refine bt (P:=PlP s d) (λ_=> .inl ⟨(by decide :(13:Int)≠0),rfl⟩) λe3=>?_;simp only[decide_eq_false_iff_not] at e1 e3;have hA:PlA s d:=by
   refine⟨by omega,?_⟩
   simp only[Bool.and_eq_false_iff,AX,decide_eq_false_iff_not] at e2
   rcases e2 with q|q
   . exact .inl q
   . exact .inr rV
 let Q:D_×Af_×Int->Prop:=λr=>r.2.2=0/\Hk (seenS s d) r.1;have hQ:∀ r,Q r->PlP s d r:=λr q=> .inr ⟨q.1,hA,by omega,q.2⟩;refine hQ _ ?_;let I:D_->Prop:=λx=>StOk x/\Hk (seenS s d) x;refine lt1E (P:=Q) I ?_ λx hx=>?_;exact bt (P:=I) (λ_=>⟨(Lb_ (D4_ h)).1,⟨rfl,rfl,rfl,hk⟩⟩) λ_=>⟨D4_ h,⟨rfl,rfl,rfl,hk⟩⟩;refine bt (P:=Q) (λ_=>⟨rfl,hx.2.note _ _ _⟩) λ_=>?_;have h1:=L1_ (s:=x) (m:=⟨(M_ d.Ad_).id,(M_ d.Ad_).Bl_,(M_ d.Ad_).key,(M_ d.Ad_).head,(M_ d.Ad_).body,(M_ d.Ad_).due,A0 .u8 ((M_ d.Ad_).hops+1)⟩) (tick:=d.tick) hx.1 (Lg_ _);have hl:=Mb_ (s:=x) (m:=⟨(M_ d.Ad_).id,(M_ d.Ad_).Bl_,(M_ d.Ad_).key,(M_ d.Ad_).head,(M_ d.Ad_).body,(M_ d.Ad_).due,A0 .u8 ((M_ d.Ad_).hops+1)⟩) (tick:=d.tick) hx.1;exact⟨rfl,bury_h h1.1 ⟨by omega,h1.2.1⟩ (send_h hx.1 hx.2 (Lg_ _))⟩
def DoP(s:D_)(d:G_)(e:Int)(x:D_):Prop:=e=0->(d.kind≠10/\Hk s x)\/(d.kind=10/\PlA s d/\A16.get s.x.seen d.frm.toNat<d.number/\Hk (seenS s d) x)
theorem do_h(h:StOk s)(h0:0<=d.Ad_.hops)(hk:KOk s.x.E_.bytes s.x.E_):((K_ s d).2.2≠0->(K_ s d).1=s)/\DoP s d (K_ s d).2.2 (K_ s d).1:=by
 have hs:Hk s s:=⟨rfl,rfl,rfl,hk⟩;unfold K_ lt;let Q:D_×Af_×Int->Prop:=λr=>(r.2.2≠0->r.1=s)/\DoP s d r.2.2 r.1;refine bt (P:=Q) (λe=>⟨λ_=>rfl,λq=>?_⟩) λ_=>?_;exact tX;let I:Int×D_×Af_->Prop:=λr=>DoP s d r.1 r.2.1;refine lt3E (P:=Q) I ?_ λa b c hb=>bt (P:=Q) (λe=>⟨λ_=>rfl,λq=>?_⟩) λe=>⟨λq=>(q Z).elim,λ_=>?_⟩;have hn:∀ {e:Int} {x:D_} {r:Af_},d.kind≠10->Hk s x->I (e,x,r):=λh1 h2 _=> .inl ⟨h1,h2⟩;refine lt1E (P:=I) (λv:Bool=>v=true->d.kind≠10) ?_ λv hv=>?_;refine bt (P:=λv:Bool=>v=true->d.kind≠10) (λe q=>?_) λe q=>?_;simp only[decide_eq_true_eq] at e;omega;simp only[decide_eq_true_eq] at q;omega;refine bt (P:=I) (λe=>hn (hv e) (queues_h hs)) λ_=>?_;refine bt (P:=I) (λe=>hn pI (put_h h h0 hs)) λ_=>?_;refine bt (P:=I) (λe=>hn pI (lend_h hs)) λ_=>?_;refine bt (P:=I) (λe=>hn pI (settle_h h hs)) λ_=>?_;refine bt (P:=I) (λe=>hn pI (late_h h hs)) λ_=>?_;refine bt (P:=I) (λe=>?_) λe10=>?_
 . simp only[decide_eq_true_eq] at e
   have hp:=pull_h (d:=d) h hk
   intro q
   rcases hp with hp|hp
   exact (hp.1 q).elim
   exact .inr ⟨e,hp.2⟩
 simp only[decide_eq_false_iff_not] at e10;refine bt (P:=I) (λ_=>hn e10 ((hs.E_ (kwake_k hs.k)).note _ _ _)) λ_=>?_;refine bt (P:=I) (λ_=>hn e10 ⟨rfl,rfl,rfl,hk⟩) λ_=>?_;exact hn e10 (shops_h hs);exact tX;simp only[AX,decide_eq_true_eq] at e;exact hb e
end Go.SW.V
