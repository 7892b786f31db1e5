/-
  A part of the proof of ReportImage: What functions answer, printed by program out of their walks: stairwelllaw03.awake, stairwelllaw03.Awake, stairwelllaw05.awake, stairwelllaw05.Awake, stairwelllaw18.awake, stairwelllaw18.Awake, stairwelllaw19.awake, stairwelllaw19.Awake, stairwelllaw
-/
import Derived.Test.YteppialeoliobaaGreatDoorReportImageP3
import Derived.Lib.ItoaLen
import Derived.Lib.Join
import Derived.Lib.LaidTab
import Derived.KernelRfl
set_option linter.unusedVariables false
set_option linter.unusedSimpArgs false
set_option maxRecDepth 100000
set_option maxHeartbeats 4000000
namespace Go.SW.V
open Go.SW
def S2_:Bool:=
 lt (G1_ [50,58,48,58,53]) λr=>
 lt (G1_ [51,58,48,58,53,58,55]) λr1=>
 lt (G1_ [51,58,53]) λr2=>
 ((((((decide (r.2=0))&&(decide (r1.2=0)))&&(decide (r2.2=0)))&&(Hr_ r.1 r1.1))&&(!(Hr_ r.1 r2.1)))&&(!(Hr_ r1.1 r.1)))
def Mh_:Bool:=
 (S2_)
def S5_:Bool:=
 lt (Jg_ [119,111,114,107,32,52,10,103,105,118,101,32,49,10,108,97,98,101,108,32,108,111,119,32,48,32,53,49,50,32,49,10,115,108,111,116,32,108,111,119]) λr=>
 (((((((Mh_)&&true)&&(decide (r.2.1=0)))&&(decide (r.2.2=0)))&&(decide ((r.1.places.length:Int)=1)))&&(decide (r.1.work=4)))&&(decide (((gt r.1.places 0).bytes)=512)))
def S3_:Bool:=
 (S5_)
def S8_:Bool:=
 lt (Ct_ (⟨[]⟩:Ae_) (⟨3,[97],[],[],[],0,0⟩:Mail)) λr=>
 lt (Ct_ r.1 (⟨5,[97],[],[],[],0,0⟩:Mail)) λr1=>
 lt (C6_ r1.1) λr2=>
 lt (C6_ r2.1) λr3=>
 lt (Eg_ r3.1 3) λr4=>
 lt (Cr_ r4.1) λr5=>
 (((((((((decide (r.2=0))&&(decide (r1.2=0)))&&r2.2.2)&&(decide (r2.2.1.Ab_.id=3)))&&r3.2.2)&&(decide (r3.2.1.Ab_.id=5)))&&(decide (r4.2=0)))&&r5.2)&&(decide (r5.1.id=3)))
def S7_:Bool:=
 (S8_)
def Lq_:Nat->Nat->B7_->Bool
 |0,_,_=>default
 | f2+1,v,x=>(bif decide ((v:Int)<40) then
 lt (C4_ x (⟨0,(IntKind.wrap .u8 (v:Int)),[]⟩:D5_)) λr=>
 Lq_ f2 (v+1) r.1
 else lt (Hm_ x 9) λr1=>
 lt (Hm_ x 8) λr2=>
 (((r1.2&&(decide (r1.1.kind=8)))&&(!r2.2))&&(decide ((In_ x)=40))))
def Px_:Bool:=
 Lq_ (40-0+1) 0 (⟨0,[]⟩:B7_)
def S9_:Bool:=
 (Px_)
def Lr_:Nat->Nat->Bc_->Bool
 |0,_,_=>default
 | f2+1,v,x=>(bif decide ((v:Int)<20) then
 lt (Cc_ x (⟨0,[97],[],[],[],0,0⟩:Mail)) λr=>
 Lr_ f2 (v+1) r.1
 else lt (Go_ x 0) λr1=>
 lt (Go_ x 20) λr2=>
 (((decide (r1.1=5))&&r1.2.2)&&(!r2.2.2)))
def Py_:Bool:=
 Lr_ (20-0+1) 0 (⟨0,[]⟩:Bc_)
def Ta_:Bool:=
 (Py_)
def Tc_:Bool:=
 lt (B4_ 7 100) λr=>
 lt (Ao_ r (⟨[113],3,0,[]⟩:Q_)) λr1=>
 lt (Ay_ r1.1 [113] (⟨0,[97],[],[],[],0,0⟩:Mail)) λr2=>
 (((((S7_)&&(Ta_))&&(decide (r1.2=0)))&&(decide (r2.2.2.2=0)))&&(decide (r2.2.1=7)))
def Tb_:Bool:=
 (Tc_)
def Ls_:Nat->Nat->E_->Bool
 |0,_,_=>default
 | f2+1,v,x=>(bif decide ((v:Int)<([(⟨0,0,(⟨[97],1,[]⟩:W_),(⟨[],0,0,[]⟩:Q_),(⟨[],[],false,[],[],false⟩:P_),[],0,0,0,0,0,(⟨0,[],[],[],[],0,0⟩:Mail),[]⟩:L_),(⟨2,0,(⟨[],0,[]⟩:W_),(⟨[113],4,0,[]⟩:Q_),(⟨[],[],false,[],[],false⟩:P_),[],0,0,0,0,0,(⟨0,[],[],[],[],0,0⟩:Mail),[]⟩:L_),(⟨4,0,(⟨[],0,[]⟩:W_),(⟨[],0,0,[]⟩:Q_),(⟨[97],[113],false,[],[],false⟩:P_),[],0,0,0,0,0,(⟨0,[],[],[],[],0,0⟩:Mail),[]⟩:L_)].length:Int)) then
 lt (O_ x (gt [(⟨0,0,(⟨[97],1,[]⟩:W_),(⟨[],0,0,[]⟩:Q_),(⟨[],[],false,[],[],false⟩:P_),[],0,0,0,0,0,(⟨0,[],[],[],[],0,0⟩:Mail),[]⟩:L_),(⟨2,0,(⟨[],0,[]⟩:W_),(⟨[113],4,0,[]⟩:Q_),(⟨[],[],false,[],[],false⟩:P_),[],0,0,0,0,0,(⟨0,[],[],[],[],0,0⟩:Mail),[]⟩:L_),(⟨4,0,(⟨[],0,[]⟩:W_),(⟨[],0,0,[]⟩:Q_),(⟨[97],[113],false,[],[],false⟩:P_),[],0,0,0,0,0,(⟨0,[],[],[],[],0,0⟩:Mail),[]⟩:L_)] v)) λr1=>
 (bif !decide (r1.2.2=0) then
 false
 else Ls_ f2 (v+1) r1.1)
 else lt (O_ x (⟨6,0,(⟨[],0,[]⟩:W_),(⟨[],0,0,[]⟩:Q_),(⟨[],[],false,[],[],false⟩:P_),[],0,0,0,0,0,(⟨0,[97],[],[],[120],0,0⟩:Mail),[]⟩:L_)) λr2=>
 lt (O_ r2.1 (⟨7,0,(⟨[],0,[]⟩:W_),(⟨[],0,0,[]⟩:Q_),(⟨[],[],false,[],[],false⟩:P_),[113],0,0,0,0,0,(⟨0,[],[],[],[],0,0⟩:Mail),[]⟩:L_)) λr3=>
 ((((((((S3_)&&(Tb_))&&true)&&(S9_))&&(decide (r2.2.2=0)))&&(decide (r2.2.1.count=1)))&&(decide (r3.2.2=0)))&&(decide (r3.2.1.item.Ab_.body=[120]))))
def Pz_:Bool:=
 lt (Al_ (⟨4,1,[(⟨[108,111,119],(⟨0,0⟩:Cq_),500,1⟩:A3_)],[0],[]⟩:C_) 0) λr=>
 Ls_ (([(⟨0,0,(⟨[97],1,[]⟩:W_),(⟨[],0,0,[]⟩:Q_),(⟨[],[],false,[],[],false⟩:P_),[],0,0,0,0,0,(⟨0,[],[],[],[],0,0⟩:Mail),[]⟩:L_),(⟨2,0,(⟨[],0,[]⟩:W_),(⟨[113],4,0,[]⟩:Q_),(⟨[],[],false,[],[],false⟩:P_),[],0,0,0,0,0,(⟨0,[],[],[],[],0,0⟩:Mail),[]⟩:L_),(⟨4,0,(⟨[],0,[]⟩:W_),(⟨[],0,0,[]⟩:Q_),(⟨[97],[113],false,[],[],false⟩:P_),[],0,0,0,0,0,(⟨0,[],[],[],[],0,0⟩:Mail),[]⟩:L_)].length)-0+1) 0 r
theorem line_ok {s:F_} {n:Bs} (h:StkOk s):LnOk (Gw_ s n):=by
 unfold Gw_ lt
 refine bt (P:=LnOk) (λ_=>M5_) λ_=>?_
 generalize (I_ s n).toNat=k
 cases e:s.rows[k]? with
 |none=>
   have :(gt s.rows k)=default:=by simp[gt,e]
   rw[this];exact M5_
 |some x=>
   have :(gt s.rows k)=x:=by simp[gt,e]
   rw[this];exact h.1.at e
theorem T2_:∀ (t:List Gi_) (out:List Q_),(Bk_ t out).length=out.length+t.length
 |[],out=>rfl
 |x::t,out=>by
   unfold Bk_
   rw[T2_ t];simp;omega
theorem Q2_ {s:F_} (h:StkOk s):(X_ s).length<=8:=by
 unfold X_
 rw[T2_]
 have :=h.1.1
 simp;omega
theorem all_len0:∀ (t out:List M_),(Dc_ t out).length=out.length+t.length
 |[],out=>rfl
 |x::t,out=>by
   unfold Dc_ lt
   rw[all_len0 t];simp;omega
theorem all_len {l:Ae_} (h:LnOk l):(Et_ l).length<=64:=by
 unfold Et_
 rw[all_len0]
 have :=h.1
 simp;omega
structure Clo (B:Ap_->Prop) (K:F_->Prop) (M:B7_->Prop):Prop where
 ma:∀ {b x},0<=x.sort->B b->B (Bz_ b x).1
 bd:∀ {b x},(∀ p∈x.want,p.wf)->B b->B (A4_ b x).1
 dp:∀ {b n},B b->B (Ds_ b n).1
 ub:∀ {b x},B b->B (C1_ b x).1
 fg:∀ {b q},B b->B (Dg_ b q)
 km:∀ {k q},K k->K (Ao_ k q).1
 kd:∀ {k n},K k->K (A6_ k n).1
 kp:∀ {k n m},StkOk k->K k->K (Ay_ k n m).1
 kl:∀ {k n},K k->K (B5_ k n).1
 kr:∀ {k n i},K k->K (Ai_ k n i).1
 kb:∀ {k n i},K k->K (Co_ k n i).1
 ks:∀ {k p m},K k->K (Bl_ k p m).1
 kw:∀ {k},StkOk k->K k->K (Ew_ k)
 na:∀ {n x},0<=x.kind/\x.kind<=255->M n->M (C4_ n x).1
def Cl (B:Ap_->Prop) (K:F_->Prop) (M:B7_->Prop) (s:E_):Prop:=B s.x.book/\K s.x.D_/\M s.x.notes
section
variable {B:Ap_->Prop} {K:F_->Prop} {M:B7_->Prop} (C:Clo B K M)
include C
variable {s:E_}
omit C in
section
variable {m:Mail} {tick:Int} {r:List Bs×List Bs×Int}
end
section
variable {d:L_}
end
end
def BiB (y:P_):Prop:=y.Bb_.length<=16/\Ez_ y.to'=0/\y.key.length<=64/\Hh_ y.want=0/\∀ p∈y.want,p.wf
def BkB (b:Ap_):Prop:=(∀ s∈b.Ba_,Kq_ s=0/\0<=s.sort)/\∀ y∈b.binds,BiB y
def RoB (k:F_):Prop:=∀ r∈k.rows,Bj_ r.q=0
def NoB (n:B7_):Prop:=∀ x∈n.kept,x.text.length<=64/\0<=x.kind/\x.kind<=255
theorem Mp_ {s:Bs} (h:Ez_ s=0):s.length<=16:=by
 unfold Ez_ at h
 split at h
 . cases h
 . split at h
   . cases h
   . omega
theorem keyE_len {l:List Bs} {s:Bs} (h:keyE l s=0):s.length<=64:=by
 unfold keyE at h
 split at h
 . cases h
 . omega
theorem Q5_ {x:W_} (h:Kq_ x=0):x.name.length<=16/\x.to'.length<=16/\x.sort<=4:=by
 unfold Kq_ at h
 split at h
 . rename_i q;exact (q h).elim
 . rename_i q
   split at h
   . cases h
   . refine⟨Mp_ (by simpa using q),?_,by omega⟩
     split at h
     . exact Mp_ h
     . split at h
       . cases h
       . rename_i q2;rw[show x.to'=[] by simpa using q2];simp
theorem Qd_ {q:Q_} (h:Bj_ q=0):q.name.length<=16/\q.dead.length<=16/\1<=q.most/\q.most<=64:=by
 unfold Bj_ at h
 by_cases q1:Ez_ q.name=0
 . rw[decide_eq_true q1] at h
   simp only[Bool.not_true,cond_false] at h
   cases e:(decide (q.most<1) || decide (64<q.most)) with
   |true=>rw[e] at h;cases h
   |false=>
     rw[e] at h
     simp only[cond_false] at h
     simp only[Bool.or_eq_false_iff,decide_eq_false_iff_not] at e
     refine⟨Mp_ q1,?_,by omega,by omega⟩
     by_cases q2:q.dead=[]
     . rw[q2];simp
     . rw[decide_eq_false q2] at h;exact Mp_ h
 . rw[decide_eq_false q1] at h;exact (q1 h).elim
theorem Zc_ {α:Type} {l:List α} {a b:Nat} {x:α} (h:x∈[l.take a,l.drop b].flatten):x∈l:=by
 simp only[List.flatten_cons,List.flatten_nil,List.append_nil,List.mem_append] at h
 rcases h with h|h
 . exact List.mem_of_mem_take h
 . exact List.mem_of_mem_drop h
theorem N0_ {α:Type} {l:List α} {y x:α} (h:x∈[l,[y]].flatten):x∈l\/x=y:=by
 simpa using h
theorem Rv_ (f:P_->Bool):∀ (t out:List P_) (y:P_),y∈Cd_ f t out->y∈out\/y∈t
 |[],out,y,h=> .inl h
 |x::t,out,y,h=>by
   unfold Cd_ at h
   cases e:f x with
   |true=>
     rw[e] at h
     rcases Rv_ f t _ y h with q|q
     . rcases List.mem_append.1 q with q|q
       . exact .inl q
       . exact .inr (by rw[List.mem_singleton.1 q];simp)
     . exact .inr (by simp[q])
   |false=>
     rw[e] at h
     rcases Rv_ f t _ y h with q|q
     . exact .inl q
     . exact .inr (by simp[q])
theorem ruleE_f {r:Rule} (h:Qh_ r=0):r.key.length<=64/\Hh_ r.want=0:=by
 unfold Qh_ at h
 split at h
 . cases h
 . split at h
   . split at h
     . rename_i q;exact (q h).elim
     . rename_i q;exact⟨keyE_len (by simpa using q),h⟩
   . split at h
     . rename_i q;exact (q h).elim
     . rename_i q;exact⟨keyE_len (by simpa using q),h⟩
theorem shopOf_mem {l:List W_} {n:Bs} (h:(Eo_ l n).isSome=true):∃ s∈l,s.name=n:=by
 obtain⟨s,hs⟩:=Option.isSome_iff_exists.1 h
 exact⟨s,List.mem_of_find?_eq_some hs,by simpa using List.find?_some hs⟩
theorem On_ {s:F_} {k:Int} {l:Ae_} (h:RoB s):RoB (Ac_ s k l):=λr hr=>by
 have hr:r∈s.rows.set k.toNat ⟨(gt s.rows k.toNat).q,l⟩:=hr
 by_cases q:k.toNat<s.rows.length
 . rcases List.mem_or_eq_of_mem_set hr with e|e
   . exact h r e
   . rw[e];exact h (gt s.rows k.toNat) (List.mem_of_getElem? (getG q))
 . rw[List.set_eq_of_length_le (by omega)] at hr;exact h r hr
theorem rob_wake:∀ (t:List Gi_) (k:Nat) (x:F_),RoB x->RoB (Bt_ t k x)
 |[],_,_,h=>h
 |_::t,k,_,h=>rob_wake t (k+1) _ (On_ h)
theorem cloB:Clo BkB RoB NoB where
 ma:=λ{b x} hq h=>by
   unfold Bz_
   let Q:Ap_×Int->Prop:=λr=>BkB r.1
   refine bt (P:=Q) (λ_=>h) λe=>bt (P:=Q) (λ_=>h) λ_=>bt (P:=Q) (λ_=>h) λ_=>bt (P:=Q) (λ_=>h) λ_=>⟨λs hs=>?_,h.2⟩
   rcases N0_ hs with q|q
   . exact h.1 s q
   . rw[q];exact⟨by simpa using e,hq⟩
 bd:=λ{b x} hw h=>by
   unfold A4_ lt
   let Q:Ap_×Int->Prop:=λr=>BkB r.1
   refine bt (P:=Q) (λ_=>h) λe1=>bt (P:=Q) (λ_=>h) λ_=>bt (P:=Q) (λ_=>h) λe2=>bt (P:=Q) (λ_=>h) λe3=>bt (P:=Q) (λ_=>h) λ_=>bt (P:=Q) (λ_=>h) λ_=>⟨h.1,λy hy=>?_⟩
   rcases N0_ hy with q|q
   . exact h.2 y q
   . rw[q]
     obtain⟨s,hs,hn⟩:=shopOf_mem (by simpa using e1)
     have hr:=ruleE_f (by simpa using e3)
     exact⟨by rw[<- hn];exact (Q5_ (h.1 s hs).1).1,by simpa using e2,hr.1,hr.2,hw⟩
 dp:=λ{b n} h=>by
   unfold Ds_ lt
   let Q:Ap_×Int->Prop:=λr=>BkB r.1
   refine bt (P:=Q) (λ_=>h) λ_=>⟨λs hs=>h.1 s (Zc_ hs),λy hy=>?_⟩
   rcases Rv_ _ _ _ y hy with q|q
   . cases q
   . exact h.2 y q
 ub:=λ{b x} h=>by
   unfold C1_ lt
   let Q:Ap_×Int->Prop:=λr=>BkB r.1
   exact bt (P:=Q) (λ_=>h) λ_=>⟨h.1,λy hy=>h.2 y (Zc_ hy)⟩
 fg:=λ{b q} h=>⟨h.1,λy hy=>by
   rcases Rv_ _ _ _ y hy with q|q
   . cases q
   . exact h.2 y q⟩
 km:=λ{k q} h=>by
   unfold Ao_ lt
   let Q:F_×Int->Prop:=λr=>RoB r.1
   refine bt (P:=Q) (λ_=>h) λe=>bt (P:=Q) (λ_=>h) λ_=>bt (P:=Q) (λ_=>h) λ_=>bt (P:=Q) (λ_=>h) λ_=>λr hr=>?_
   rcases N0_ hr with q|q
   . exact h r q
   . rw[q];simpa using e
 kd:=λ{k n} h=>by
   unfold A6_ lt
   let Q:F_×Int->Prop:=λr=>RoB r.1
   exact bt (P:=Q) (λ_=>h) λ_=>λr hr=>h r (Zc_ hr)
 kp:=λ{k n m} _ h=>by
   unfold Ay_ lt
   let Q:F_×Int×Mail×Int->Prop:=λr=>RoB r.1
   refine bt (P:=Q) (λ_=>h) λ_=>bt (P:=Q) (λ_=>h) λ_=>bt (P:=Q) (λ_=>h) λ_=>?_
   refine lp2E (P:=Q) (λ_=>True) ?_ λx x1 _=>?_
   . exact bt (P:=LoP _ _) (λ_=>bt (P:=LoP _ _) (λ_=>h) λ_=>trivial) λ_=>trivial
   . exact bt (P:=Q) (λ_=>h) λ_=>bt (P:=Q) (λ_=>h) λ_=>λr hr=>On_ (k:=I_ k n) h r hr
 kl:=λ{k n} h=>by
   unfold B5_ lt
   let Q:F_×M_×Bool->Prop:=λr=>RoB r.1
   exact bt (P:=Q) (λ_=>h) λ_=>On_ h
 kr:=λ{k n i} h=>by
   unfold Ai_ lt
   let Q:F_×M_×Int->Prop:=λr=>RoB r.1
   exact bt (P:=Q) (λ_=>h) λ_=>On_ h
 kb:=λ{k n i} h=>by
   unfold Co_ lt
   let Q:F_×Int->Prop:=λr=>RoB r.1
   exact bt (P:=Q) (λ_=>h) λ_=>On_ h
 ks:=λ{k p m} h=>by
   unfold Bl_ lt
   let Q:F_×Int->Prop:=λr=>RoB r.1
   exact bt (P:=Q) (λ_=>h) λ_=>bt (P:=Q) (λ_=>h) λ_=>bt (P:=Q) (λ_=>h) λ_=>h
 kw:=λ{k} _ h=>rob_wake _ _ _ h
 na:=λ{n x} hk h=>by
   unfold C4_
   let Q:B7_×Int->Prop:=λr=>NoB r.1
   refine bt (P:=Q) (λ_=>h) λe=>bt (P:=Q) (λ_=>h) λ_=>λy hy=>?_
   simp only[decide_eq_false_iff_not] at e
   rcases N0_ (List.mem_of_mem_drop hy) with q|q
   . exact h y q
   . rw[q];exact⟨by omega,hk⟩
def StB (s:E_):Prop:=Cl BkB RoB NoB s
theorem newB (p:C_) (k:Int):StB (Al_ p k):=⟨⟨(λ_ h=>by cases h),λ_ h=>by cases h⟩,(λ_ h=>by cases h),λ_ h=>by cases h⟩
variable {r r':Bs}
def bitM (y:Bool):Nat:=if y then 1 else 0
def Q4_ (s:W_):Bs:=txtB s.name++(numB 1 s.sort.toNat++txtB s.to')
def L5_ (y:P_):Bs:=txtB y.Bb_++(txtB y.to'++(numB 1 (bitM y.up)++(txtB y.key++(Bi_ y.want++numB 1 (bitM y.all)))))
def P9_ (n:D5_):Bs:=numB 8 n.tick.toNat++(numB 1 n.kind.toNat++txtB n.text)
def Lw_ (n:B7_):Bs:=numB 8 n.total.toNat++(numB 1 n.kept.length++n.kept.flatMap P9_)
def bookB (b:Ap_):Bs:=numB 1 b.Ba_.length++(b.Ba_.flatMap Q4_++(numB 1 b.binds.length++b.binds.flatMap L5_))
end Go.SW.V
namespace Go.SW.V
open Go.SW
def decF:Nat->Nat->Bs
 |0,_=>[]
 |f+1,u=>if u<10 then [UInt8.ofNat (48+u)] else decF f (u/10)++[UInt8.ofNat (48+u%10)]
theorem V1_:∀ (f u:Nat),u<10 ^ (f+1)->decF (f+1) u=Go.Lib.decDigits u
 |0,u,h=>by rw[decF,Go.Lib.decDigits,if_pos (by simpa using h),dif_pos (by simpa using h)]
 |f+1,u,h=>by
   rw[decF,Go.Lib.decDigits]
   by_cases q:u<10
   . rw[if_pos q,dif_pos q]
   . rw[if_neg q,dif_neg q,V1_ f (u/10) (by rw[Nat.pow_succ] at h;omega)]
def decB (n:Int):Bs:=if 0<=n/\n<=18446744073709551615 then decF 20 n.toNat else []
def itoB (n:Int):Bs:=if -9223372036854775808<=n/\n<=9223372036854775807 then (if n<0 then 45::decF 20 n.natAbs else decF 20 n.toNat) else []
theorem decB_eq (n:Int):decB n = if 0<=n/\n<=18446744073709551615 then Go.Lib.decDigits n.toNat else []:=by
 unfold decB
 split
 . have h20:(10:Nat) ^ 20=100000000000000000000:=by decide
   exact V1_ 19 _ (by omega)
 . rfl
theorem itoB_eq (n:Int):itoB n = if -9223372036854775808<=n/\n<=9223372036854775807 then Go.Lib.itoa n else []:=by
 have :(10:Nat) ^ 20=100000000000000000000:=by decide
 unfold itoB Go.Lib.itoa
 split
 . split
   . rw[V1_ 19 _ (by omega)]
   . exact V1_ 19 _ (by omega)
 . rfl
theorem V0_ (n:Int):(decB n).length<=20:=by
 rw[decB_eq]
 split
 . rw[Go.Lib.decDigits_length];exact Go.Lib.nDigits_le20 _ (by omega)
 . simp
theorem H9_ (n:Int):(itoB n).length<=21:=by
 rw[itoB_eq]
 split
 . rename_i h;exact Go.Lib.itoa_length_le n h.1 h.2
 . simp
def joinB:List Bs->Bs->Bs
 |[],_=>[]
 |[x],_=>x
 |x::y::r,s=>x++s++joinB (y::r) s
theorem joinB_eq:∀ (xs:List Bs) (s:Bs),joinB xs s=Go.Lib.join xs s
 |[],_=>rfl
 |[x],s=>(Go.Lib.join_one x s).symm
 |x::y::r,s=>by
   rw[joinB,joinB_eq (y::r) s,Go.Lib.join_cons,Go.Lib.join_cons]
   simp[Go.Lib.joinTail]
end Go.SW.V
namespace Go.SW
def GPow (H:Hp) (g:Nat):Prop:=∃ T fr,H g=some (.cells (Go.Lib.pow10Tab.map (Value.int .u64)).toArray T fr)
theorem GPow.mono {H H':Hp} {g:Nat} (h:GPow H g) (hl:HLe H H'):GPow H' g:=by
 obtain⟨T,fr,e⟩:=h;exact⟨T,fr,hl _ _ e⟩
theorem GPow.tab {P:Program} {N:Rest} {H:Hp} {L:Ls} {w:World} {g:Nat} {name:String} (h:GPow H g) (hm:Mem N H L w) (hg:P.globalNamed name=some g):Go.Lib.TabIs P w name .u64 Go.Lib.pow10Tab:=by
 obtain⟨T,fr,e⟩:=h
 have :=hm.h _ _ e
 unfold Go.Lib.TabIs World.var?
 rw[hg]
 simp[this]
end Go.SW
namespace Go.SW.V
open Go.SW
variable {P:Program} {n:Nat} {N:Rest} {H0:Env} {all rest:List Oper} {Q:Qs} {ks:List Kt} {fF:Nat->PV} {fL:Nat->Blk} {T ty d:Nat} {pos:String} {af:Array Edge} {x y z:Operand} {K:St->Prop}
structure EfR where
 F:Nat->PV
 L:Nat->Blk
 eq:Option (Nat×Nat)
def mkE (tb:Tb) (n:Nat) (i b:Nat) (F:Nat->PV) (L:Nat->Blk) (o:Oper):Option EfR:=
 match o.guard with
 |some _=>none
 |none=>match o.dst with
   |none=>none
   |some d=>match Nat.blt d n with
     |false=>none
     |true=>match o.op with
       | .alloc T=>match lkT tb T with
         |some ti=>match evL ti.zero with
           |some zs=>match Cs_ zs with
             |true=>some ⟨updp F d (.own i b 0),lups L i (.box b T zs),none⟩
             |false=>none
           |none=>none
         |none=>none
       | .box T x=>match evP F x with
         | .agg cs=>match Cs_ cs with
           |true=>some ⟨updp F d (.own i b 0),lups L i (.box b T cs),none⟩
           |false=>none
         |v=>match evS v with
           |some p=>match p.one with
             |true=>some ⟨updp F d (.own i b 0),lups L i (.box b T [p]),none⟩
             |false=>none
           |none=>none
       |_=>none
def stE (tb:Tb) (F:Nat->PV) (L:Nat->Blk) (o:Oper):Option EfR:=
 match o.guard with
 |some _=>none
 |none=>match o.dst with
   |some _=>none
   |none=>match o.op with
     | .store T x y=>match evP F x with
       | .own i b off=>match L i with
         | .box b' T0 cs=>match lkT tb T with
           |some ti=>match evP F y with
             | .agg ps=>match Cs_ ps with
               |true=>match all1 ps with
                 |true=>match Nat.beq ps.length ti.size with
                   |true=>match Nat.ble (off+ti.size) cs.length with
                     |true=>match evL (cs.take off++(ps++cs.drop (off+ti.size))) with
                       |some cs'=>some ⟨F,lups L i (.box b T0 cs'),some (b',b)⟩
                       |none=>none
                     |false=>none
                   |false=>none
                 |false=>none
               |false=>none
             |v=>match Nat.beq ti.size 1 with
               |true=>match evS v with
                 |some p=>match p.one with
                   |true=>match Nat.blt off cs.length with
                     |true=>match evL (cs.set off p) with
                       |some cs'=>some ⟨F,lups L i (.box b T0 cs'),some (b',b)⟩
                       |none=>none
                     |false=>none
                   |false=>none
                 |none=>none
               |false=>none
           |none=>none
         |_=>none
       |_=>none
     |_=>none
def kindE (o:Op):Nat:=
 match o with
 | .alloc _=>0
 | .box _ _=>0
 | .store _ _ _=>1
 |_=>2
def runE (tb:Tb) (n:Nat):Nat->List Nat->(Nat->Nat)->Cf->List Kt->(Nat->PV)->(Nat->Blk)->List Prop->List Nat->List Nat->Option RR
 |0,_,_,c,ks,F,L,ps,as0,bs=>frcP ps λps=>frcN as0 λas0=>frcN bs λbs=>some ⟨c,ks,F,L,ps,as0,bs⟩
 |k+1,is,B,c,ks,F,L,ps,as0,bs=>
   match c with
   | .ops all (o::rest)=>match kindE o.op with
     |0=>match is with
       |[]=>none
       |i::is=>match mkE tb n i (B 0) F L o with
         |some ⟨F,L,_⟩=>runE tb n k is (λi=>B (i+1)) (.ops all rest) ks F L ps as0 bs
         |none=>none
     |1=>match stE tb F L o with
       |some ⟨F,L,e⟩=>match e with
         |some (a,b)=>runE tb n k is B (.ops all rest) ks F L ps (a::as0) (b::bs)
         |none=>none
       |none=>none
     |_=>match run tb n 1 (.ops all (o::rest)) ks F L ps as0 bs with
       |some ⟨c,ks,F,L,ps,as0,bs⟩=>runE tb n k is B c ks F L ps as0 bs
       |none=>none
   |c=>match run tb n 1 c ks F L ps as0 bs with
     |some ⟨c,ks,F,L,ps,as0,bs⟩=>runE tb n k is B c ks F L ps as0 bs
     |none=>none
theorem mkE_ok {tb:Tb} (ht:tbB P tb=true) {i:Nat} {F:Nat->PV} {L:Nat->Blk} {o:Oper} (h:∀ b,∃ r,mkE tb n i b F L o=some r/\Hd P n N H0 Q (.ops all rest) ks ⟨r.F,r.L⟩):Hd P n N H0 Q (.ops all (o::rest)) ks ⟨F,L⟩:=by
 obtain⟨dst,op,ty,pos,af,g⟩:=o
 have h0:=h 0
 cases g with
 |some q=>obtain⟨r,h1,_⟩:=h0;simp[mkE] at h1
 |none=>
   cases dst with
   |none=>obtain⟨r,h1,_⟩:=h0;simp[mkE] at h1
   |some d=>
     cases hd:Nat.blt d n with
     |false=>obtain⟨r,h1,_⟩:=h0;simp[mkE,hd] at h1
     |true=>
       cases op with
       |alloc T=>
         simp only[mkE,hd] at h
         cases hti:lkT tb T with
         |none=>rw[hti] at h;obtain⟨r,h1,_⟩:=h 0;simp at h1
         |some ti=>
           rw[hti] at h
           simp only at h
           cases hz:evL ti.zero with
           |none=>rw[hz] at h;obtain⟨r,h1,_⟩:=h 0;simp at h1
           |some zs=>
             rw[hz] at h
             simp only at h
             cases hn:Cs_ zs with
             |false=>rw[hn] at h;obtain⟨r,h1,_⟩:=h 0;simp at h1
             |true=>
               rw[hn] at h
               refine ef (alloc ht i hti hz hn hd λb=>?_)
               obtain⟨r,h1,h2⟩:=h b
               simp only[Option.some.injEq] at h1
               subst h1;exact h2
       |box T x=>
         simp only[mkE,hd] at h
         split at h
         . rename_i cs hx
           cases hn:Cs_ cs with
           |false=>rw[hn] at h;obtain⟨r,h1,_⟩:=h 0;simp at h1
           |true=>
             rw[hn] at h
             refine ef (boxA i hx hn hd λb=>?_)
             obtain⟨r,h1,h2⟩:=h b
             simp only[Option.some.injEq] at h1
             subst h1;exact h2
         . cases hs:evS (evP F x) with
           |none=>rw[hs] at h;obtain⟨r,h1,_⟩:=h 0;simp at h1
           |some p=>
             rw[hs] at h
             simp only at h
             cases ho:p.one with
             |false=>rw[ho] at h;obtain⟨r,h1,_⟩:=h 0;simp at h1
             |true=>
               rw[ho] at h
               refine ef (box1 i hs ho hd λb=>?_)
               obtain⟨r,h1,h2⟩:=h b
               simp only[Option.some.injEq] at h1
               subst h1;exact h2
       |_=>obtain⟨r,h1,_⟩:=h0;simp[mkE,hd] at h1
theorem stE_ok {tb:Tb} (ht:tbB P tb=true) {F:Nat->PV} {L:Nat->Blk} {o:Oper} {r:EfR} (h:stE tb F L o=some r) (he:∀ q,r.eq=some q->q.1=q.2) (k:Hd P n N H0 Q (.ops all rest) ks ⟨r.F,r.L⟩):Hd P n N H0 Q (.ops all (o::rest)) ks ⟨F,L⟩:=by
 obtain⟨dst,op,ty,pos,af,g⟩:=o
 cases g with
 |some q=>simp[stE] at h
 |none=>
   cases dst with
   |some d=>simp[stE] at h
   |none=>
     cases op with
     |store T x y=>
       simp only[stE] at h
       split at h
       . rename_i i b off hx
         split at h
         . rename_i b' T0 cs hb
           split at h
           . rename_i ti hti
             split at h
             . rename_i ps hy
               split at h
               . rename_i hn
                 split at h
                 . rename_i ho
                   split at h
                   . rename_i hsz
                     split at h
                     . rename_i hl
                       split at h
                       . rename_i cs' hc
                         simp only[Option.some.injEq] at h
                         subst h
                         exact ef (storeA ht hx hb hti hy hn ho (Nat.eq_of_beq_eq_true hsz) hl (he _ rfl) hc k)
                       . cases h
                     . cases h
                   . cases h
                 . cases h
               . cases h
             . split at h
               . rename_i hsz
                 split at h
                 . rename_i p hs
                   split at h
                   . rename_i ho
                     split at h
                     . rename_i hl
                       split at h
                       . rename_i cs' hc
                         simp only[Option.some.injEq] at h
                         subst h
                         exact ef (store1 ht hx hb hti (Nat.eq_of_beq_eq_true hsz) hs ho hl (he _ rfl) hc k)
                       . cases h
                     . cases h
                   . cases h
                 . cases h
               . cases h
           . cases h
         . cases h
       . cases h
     |_=>simp[stE] at h
def okR (P:Program) (n:Nat) (N:Rest) (H0:Env) (Q:Qs) (r:RR):Prop:=AllP r.ps/\r.as0=r.bs/\Hd P n N H0 Q r.c r.ks ⟨r.F,r.L⟩
theorem runE_ok {tb:Tb} (ht:tbB P tb=true):∀ (k:Nat) (is:List Nat) (c:Cf) (ks:List Kt) (F:Nat->PV) (L:Nat->Blk) (ps:List Prop) (as0 bs:List Nat),(∀ B:Nat->Nat,∃ r,runE tb n k is B c ks F L ps as0 bs=some r/\okR P n N H0 Q r)->AllP ps/\as0=bs/\Hd P n N H0 Q c ks ⟨F,L⟩:=by
 intro k
 induction k with
 |zero=>
   intro is c ks F L ps as0 bs h
   obtain⟨r,h1,h2,h3,h4⟩:=h (λ_=>0)
   simp only[runE,Ss_,Wg_,Option.some.injEq] at h1
   subst h1
   exact⟨h2,h3,h4⟩
 |succ k ih=>
   intro is c ks F L ps as0 bs h
   have one:(∀ B:Nat->Nat,∃ r,(match run tb n 1 c ks F L ps as0 bs with
       |some ⟨c,ks,F,L,ps,as0,bs⟩=>runE tb n k is B c ks F L ps as0 bs
       |none=>none)=some r/\okR P n N H0 Q r)->AllP ps/\as0=bs/\Hd P n N H0 Q c ks ⟨F,L⟩:=by
     intro h
     cases hr:run tb n 1 c ks F L ps as0 bs with
     |none=>obtain⟨r,h1,_⟩:=h (λ_=>0);rw[hr] at h1;cases h1
     |some q=>
       obtain⟨c',ks',F',L',ps',as',bs'⟩:=q
       obtain⟨i1,i2,i3⟩:=ih is c' ks' F' L' ps' as' bs' (λB=>by obtain⟨r,h1,h2⟩:=h B;rw[hr] at h1;exact⟨r,h1,h2⟩)
       obtain⟨j1,j2,j3⟩:=run_ok ht (Q:=Q) (N:=N) (H0:=H0) 1 c ks F L ps as0 bs _ hr i1 i2
       exact⟨j1,j2,j3 i3⟩
   cases c with
   |code c=>exact one h
   |ex e=>exact one h
   |ops all l=>
     cases l with
     |nil=>exact one h
     |cons o rest=>
       simp only[runE] at h
       split at h
       . cases is with
         |nil=>obtain⟨r,h1,_⟩:=h (λ_=>0);cases h1
         |cons i is=>
           have hb:∀ b,∃ r,mkE tb n i b F L o=some r/\AllP ps/\as0=bs/\Hd P n N H0 Q (.ops all rest) ks ⟨r.F,r.L⟩:=by
             intro b
             cases hm:mkE tb n i b F L o with
             |none=>obtain⟨r,h1,_⟩:=h (λ_=>b);simp only[hm] at h1;cases h1
             |some q=>
               obtain⟨F',L',e⟩:=q
               refine⟨_,rfl,ih is (.ops all rest) ks F' L' ps as0 bs λB=>?_⟩
               obtain⟨r,h1,h2⟩:=h (λj=>match j with|0=>b|j+1=>B j)
               simp only[hm] at h1
               exact⟨r,h1,h2⟩
           obtain⟨_,_,q1,q2,_⟩:=hb 0
           exact⟨q1,q2,mkE_ok ht λb=>by obtain⟨r,h1,_,_,h2⟩:=hb b;exact⟨r,h1,h2⟩⟩
       . cases hs:stE tb F L o with
         |none=>obtain⟨r,h1,_⟩:=h (λ_=>0);rw[hs] at h1;cases h1
         |some q=>
           obtain⟨F',L',e⟩:=q
           cases e with
           |none=>obtain⟨r,h1,_⟩:=h (λ_=>0);rw[hs] at h1;cases h1
           |some ab=>
             obtain⟨a,b⟩:=ab
             obtain⟨i1,i2,i3⟩:=ih is (.ops all rest) ks F' L' ps (a::as0) (b::bs) (λB=>by obtain⟨r,h1,h2⟩:=h B;rw[hs] at h1;exact⟨r,h1,h2⟩)
             simp only[List.cons.injEq] at i2
             exact⟨i1,i2.2,stE_ok ht hs (λq hq=>by cases hq;exact i2.1) i3⟩
       . exact one h
theorem gmp {tb:Tb} (ht:tbB P tb=true) (k:Nat) (is:List Nat) {c c':Cf} {ks':List Kt} {F':(Nat->Nat)->Nat->PV} {L':(Nat->Nat)->Nat->Blk} {ps:(Nat->Nat)->List Prop} {as0 bs:(Nat->Nat)->List Nat} (h:∀ B,runE tb n k is B c ks fF fL [] [] []=some ⟨c',ks',F' B,L' B,ps B,as0 B,bs B⟩) (he:∀ B,as0 B=bs B) (hp:∀ B,AllP (ps B)) (next :∀ B:Nat->Nat,Hd P n N H0 Q c' ks' ⟨F' B,L' B⟩):Hd P n N H0 Q c ks ⟨fF,fL⟩:=
 (runE_ok ht k is c ks fF fL [] [] [] λB=>⟨_,h B,hp B,he B,next B⟩).2.2
theorem gx {tb:Tb} (ht:tbB P tb=true) (k:Nat) {c c':Cf} {ks':List Kt} {F':Nat->PV} {L':Nat->Blk} {as0 bs:List Nat} (next :Hd P n N H0 Q c' ks' ⟨F',L'⟩) (h:run tb n k c ks fF fL [] [] []=some ⟨c',ks',F',L',[],as0,bs⟩:=by exact rfl) (he:as0=bs:=by exact rfl):Hd P n N H0 Q c ks ⟨fF,fL⟩:=go ht k h he trivial next
theorem gm {tb:Tb} (ht:tbB P tb=true) (k:Nat) (is:List Nat) {c c':Cf} {ks':List Kt} {F':(Nat->Nat)->Nat->PV} {L':(Nat->Nat)->Nat->Blk} {as0 bs:(Nat->Nat)->List Nat} (next :∀ B:Nat->Nat,Hd P n N H0 Q c' ks' ⟨F' B,L' B⟩) (h:∀ B,runE tb n k is B c ks fF fL [] [] []=some ⟨c',ks',F' B,L' B,[],as0 B,bs B⟩:=by exact λ_=>rfl) (he:∀ B,as0 B=bs B:=by exact λ_=>rfl):Hd P n N H0 Q c ks ⟨fF,fL⟩:=gmp ht k is h he (λ_=>trivial) next
abbrev jIn (xs:List Nat) (j:Option Nat):Bool:=match j with|none=>true|some j=>memB xs j
theorem sA {tb:Tb} {ti:TI} {i b b' off T0:Nat} {cs ps cs':List PV} (ht:tbB P tb=true) (k:K ⟨fF,lups fL i (.box b T0 cs')⟩) (hx:evP fF x = .own i b off:=by exact rfl) (hb:fL i = .box b' T0 cs:=by exact rfl) (hti:lkT tb T=some ti:=by exact rfl) (hy:evP fF y = .agg ps:=by exact rfl) (hn:Cs_ ps=true:=by exact rfl) (ho:all1 ps=true:=by exact rfl) (hsz:ps.length=ti.size:=by exact rfl) (hl:Nat.ble (off+ti.size) cs.length=true:=by exact rfl) (hbb:b'=b:=by exact rfl) (hc:evL (cs.take off++(ps++cs.drop (off+ti.size)))=some cs':=by exact rfl):E1 P n N H0 all ⟨none, .store T x y,ty,pos,af,none⟩ (some i) ⟨fF,fL⟩ K:=storeA ht hx hb hti hy hn ho hsz hl hbb hc k
theorem sO {tb:Tb} {ti:TI} {i b b' off T0:Nat} {cs cs':List PV} {p:PV} (ht:tbB P tb=true) (k:K ⟨fF,lups fL i (.box b T0 cs')⟩) (hx:evP fF x = .own i b off:=by exact rfl) (hb:fL i = .box b' T0 cs:=by exact rfl) (hti:lkT tb T=some ti:=by exact rfl) (hsz:ti.size=1:=by exact rfl) (hy:evS (evP fF y)=some p:=by exact rfl) (ho:p.one=true:=by exact rfl) (hl:Nat.blt off cs.length=true:=by exact rfl) (hbb:b'=b:=by exact rfl) (hc:evL (cs.set off p)=some cs':=by exact rfl):E1 P n N H0 all ⟨none, .store T x y,ty,pos,af,none⟩ (some i) ⟨fF,fL⟩ K:=store1 ht hx hb hti hsz hy ho hl hbb hc k
theorem aL {tb:Tb} {ti:TI} {zs:List PV} (ht:tbB P tb=true) (i:Nat) (k:∀ b,K ⟨updp fF d (.own i b 0),lups fL i (.box b T zs)⟩) (hti:lkT tb T=some ti:=by exact rfl) (hz:evL ti.zero=some zs:=by exact rfl) (hn:Cs_ zs=true:=by exact rfl) (hd:Nat.blt d n=true:=by exact rfl):E1 P n N H0 all ⟨some d, .alloc T,ty,pos,af,none⟩ (some i) ⟨fF,fL⟩ K:=alloc ht i hti hz hn hd k
theorem eC {f:FuncId} {args:List PV} {res:PV} {as0:Array Operand} {ats:Array TypeId} (h:Fn P H0.g f args res) (ha:argsP fF x as0.toList=some (f,args)) (k:res.wf->K ⟨updp fF d res,fL⟩) (hd:Nat.blt d n=true:=by exact rfl):E1 P n N H0 all ⟨some d, .call ⟨.value x,as0,ats⟩,ty,pos,af,none⟩ none ⟨fF,fL⟩ K:=ecall h ha hd k
theorem vE {xs:List Nat} {fuel:Nat} {listed:Array Bool} {o:Oper} {j:Option Nat} (i:Nat) (hi:nth all i=some o) (h:E1 P n N H0 all o j ⟨fF,fL⟩ (λs'=>Hv P n N H0 Q (some xs) all fuel (listed.setIfInBounds i true) ks s')) (hr:Region.ready .any all.toArray listed=[i]:=by kernel_rfl) (hj:jIn xs j=true:=by exact rfl):Hv P n N H0 Q (some xs) all (fuel+1) listed ks ⟨fF,fL⟩:=ve i hi hr hj h
theorem vT {xs:Option (List Nat)} {fuel:Nat} {listed:Array Bool} {o:Oper} {j:Option Nat} (i:Nat) (hi:nth all i=some o) (h:E1 P n N H0 all o j ⟨fF,fL⟩ (λs'=>Hv P n N H0 Q none all fuel (listed.setIfInBounds i true) ks s')) (hr:Region.ready .any all.toArray listed=[i]:=by kernel_rfl) (ht:tailB all listed i=true:=by kernel_rfl):Hv P n N H0 Q xs all (fuel+1) listed ks ⟨fF,fL⟩:=vt i hi hr ht h
theorem vD {xs:Option (List Nat)} {fuel:Nat} {listed:Array Bool} (k:Hd P n N H0 Q (.ex .normal) ks ⟨fF,fL⟩) (h:Region.ready .any all.toArray listed=[]:=by kernel_rfl):Hv P n N H0 Q xs all fuel listed ks ⟨fF,fL⟩:=vdone h k
theorem aN (xs:List Nat) (m:Nat) {id:Nat} {ops:Array Oper} (hmx:P.follows .mixedOrders=true) (h:Hv P n N H0 Q (some xs) ops.toList m (Array.replicate m false) ks ⟨fF,fL⟩) (hm:ops.toList.length=m:=by exact rfl):Hd P n N H0 Q (.code (.region id ops true)) ks ⟨fF,fL⟩:=any xs m hmx hm h
theorem gX {tb:Tb} (ht:tbB P tb=true) (order:List Nat) (f:Nat) {xs:Option (List Nat)} {fuel:Nat} {listed:Array Bool} {F':Nat->PV} {L':Nat->Blk} {as0 bs:List Nat} (next :Hv P n N H0 Q xs all f (lst listed order) ks ⟨F',L'⟩) (hf:fuel=f+order.length:=by exact rfl) (hc:chkV n all order listed=true:=by kernel_rfl) (h:runV tb xs all order fF fL [] [] []=some ⟨F',L',[],as0,bs⟩:=by exact rfl) (he:as0=bs:=by exact rfl):Hv P n N H0 Q xs all fuel listed ks ⟨fF,fL⟩:=gov ht order f hf hc h he trivial next
theorem vC {xs:Option (List Nat)} {fuel:Nat} {listed:Array Bool} {f:FuncId} {args:List PV} {res:PV} {as0:Array Operand} {ats:Array TypeId} (i:Nat) (hi:nth all i=some ⟨some d, .call ⟨.value x,as0,ats⟩,ty,pos,af,none⟩) (h:Fn P H0.g f args res) (ha:argsP fF x as0.toList=some (f,args)) (k:res.wf->Hv P n N H0 Q xs all fuel (listed.setIfInBounds i true) ks ⟨updp fF d res,fL⟩) (hck:(rdB all listed i&&apB n all listed i ⟨some d, .call ⟨.value x,as0,ats⟩,ty,pos,af,none⟩&&Nat.blt d n&&nosB (.call ⟨.value x,as0,ats⟩))=true:=by kernel_rfl) (hf:res.flat=true:=by exact rfl):Hv P n N H0 Q xs all (fuel+1) listed ks ⟨fF,fL⟩:=vcall i hi hck h hf ha k
theorem nX {ι:Type _} {keep kL:List Nat} {G:Nat->PV} {GL:Nat->Blk} {lv:ι->List (Nat×PV)} {lL:ι->List (Nat×Blk)} {Φ:ι->Prop} {μ:ι->Nat} {m:Nat} {ks:List Kt} {Q:Qs} (x':ι) (hΦ:Φ x') (h3:AllF fF (lv x')) (h4:AllL fL (lL x')) (h1:keep.map fF=keep.map G:=by exact rfl) (h2:kL.map fL=kL.map GL:=by exact rfl) (hm:μ x'<m:=by decide):Hd P n N H0 Q (.ex .normal) (.lp (LJ (λx=>⟨mkF (lv x) keep G,mkL (lL x) kL GL⟩) Φ μ m)::ks) ⟨fF,fL⟩:=next x' h1 h2 h3 h4 hm hΦ
theorem cE {α:Type} {v a b:α} {c:Operand} {p q:Code} {t:Bool} (e:v = bif t then a else b) (ht:t=true->v=a->Hd P n N H0 Q (.code p) ks ⟨fF,fL⟩) (hf:t=false->v=b->Hd P n N H0 Q (.code q) ks ⟨fF,fL⟩) (hc:evP fF c = .bool t:=by exact rfl):Hd P n N H0 Q (.code (.cond c p q)) ks ⟨fF,fL⟩:=cnd hc (λh=>ht h (e.trans (by rw[h];rfl))) (λh=>hf h (e.trans (by rw[h];rfl)))
theorem cD {α:Type} {v a b:α} {c:Operand} {p q:Code} {t:Prop} [Decidable t] (e:v = bif decide t then a else b) (ht:t->v=a->Hd P n N H0 Q (.code p) ks ⟨fF,fL⟩) (hf:¬t->v=b->Hd P n N H0 Q (.code q) ks ⟨fF,fL⟩) (hc:evP fF c = .bool (decide t):=by exact rfl):Hd P n N H0 Q (.code (.cond c p q)) ks ⟨fF,fL⟩:=cE e (λh=>ht (of_decide_eq_true h)) (λh=>hf (of_decide_eq_false h)) hc
theorem cN {α:Type} {v a b:α} {c:Operand} {p q:Code} {t:Prop} [Decidable t] (e:v = bif !decide t then a else b) (ht:¬t->v=a->Hd P n N H0 Q (.code p) ks ⟨fF,fL⟩) (hf:t->v=b->Hd P n N H0 Q (.code q) ks ⟨fF,fL⟩) (hc:evP fF c = .bool (!decide t):=by exact rfl):Hd P n N H0 Q (.code (.cond c p q)) ks ⟨fF,fL⟩:=cE e (λh=>ht (by simpa using h)) (λh=>hf (by simpa using h)) hc
theorem fC {tb:Tb} {G:Gb} {m:Nat} {f:FuncId} {fn:Func} {c:Code} {args:List PV} {res:PV} (hf:P.funcs[f]? = some fn) (ht:tbB P tb=true) (hn:fn.ntmps=m) (h:PV.wfs args->∀ N H,G.p H->Hd P m N ⟨H,G⟩ (rtK tb fn.results.toList res) (.code c) [] ⟨Ni_ args,λ_=> .no⟩) (hb:fn.body=some c:=by exact rfl) (hs:Nat.ble args.length m=true:=by exact rfl) (h1:(fn.name == "runtime.NumGoroutine")=false:=by kernel_rfl) (h2:fn.body.isNone=false:=by kernel_rfl) (hno:res.noOsl=true:=by exact rfl) (hna:Cs_ args=true:=by exact rfl):Fn P G f args res:=fn_cw ht hf hb hn hs (Aa_ hf h1 h2) hno hna h
variable {tb:Tb} {rs:List ResultVar} {as0 bs:List Nat} {res q0 q1 q2 q3:PV}
theorem qr1 (h:Id_ tb ⟨fF,fL⟩ rs=some ([q0],as0,bs):=by exact rfl) (he:as0=bs:=by exact rfl) (hp:PLe q0 res:=by exact ple rfl):Hd P n N H0 (rtK tb rs res) (.ex .ret) [] ⟨fF,fL⟩:=rt1 h he hp
theorem qr2 (h:Id_ tb ⟨fF,fL⟩ rs=some ([q0,q1],as0,bs):=by exact rfl) (he:as0=bs:=by exact rfl) (hp:PLe (.tup [q0,q1]) res:=by exact ple rfl):Hd P n N H0 (rtK tb rs res) (.ex .ret) [] ⟨fF,fL⟩:=rt2 h he hp
theorem qr3 (h:Id_ tb ⟨fF,fL⟩ rs=some ([q0,q1,q2],as0,bs):=by exact rfl) (he:as0=bs:=by exact rfl) (hp:PLe (.tup [q0,q1,q2]) res:=by exact ple rfl):Hd P n N H0 (rtK tb rs res) (.ex .ret) [] ⟨fF,fL⟩:=rt3 h he hp
theorem qr4 (h:Id_ tb ⟨fF,fL⟩ rs=some ([q0,q1,q2,q3],as0,bs):=by exact rfl) (he:as0=bs:=by exact rfl) (hp:PLe (.tup [q0,q1,q2,q3]) res:=by exact ple rfl):Hd P n N H0 (rtK tb rs res) (.ex .ret) [] ⟨fF,fL⟩:=rt4 h he hp
theorem cV {α β:Type} {v:β} {g:α} {kf:α->β} {f:FuncId} {args:List PV} {xs:Array Operand} {ats:Array TypeId} (e:v=lt g kf) (enc:α->PV) (h:Fn P H0.g f args (enc g)) (ha:argsP fF x xs.toList=some (f,args)) (k:∀ r,r=g->v=kf r->(enc r).wf->Hd P n N H0 Q (.ops all rest) ks ⟨updp fF d (enc r),fL⟩) (hd:Nat.blt d n=true:=by exact rfl):Hd P n N H0 Q (.ops all (⟨some d, .call ⟨.value x,xs,ats⟩,ty,pos,af,none⟩::rest)) ks ⟨fF,fL⟩:=
 callv g enc h ha hd λr hr w=>k r hr (e.trans (C3_ hr)) w
theorem gy {tb:Tb} (ht:tbB P tb=true) (k:Nat) {c c':Cf} {ks':List Kt} {F':Nat->PV} {L':Nat->Blk} {ps:List Prop} {as0 bs:List Nat} (next :Hd P n N H0 Q c' ks' ⟨F',L'⟩) (h:run tb n k c ks fF fL [] [] []=some ⟨c',ks',F',L',ps,as0,bs⟩:=by exact rfl) (he:as0=bs:=by exact rfl) (hp:AllP ps:=by repeat' (first|exact trivial|refine And.intro ?_ ?_|exact λhc=>hc|exact rfl|exact λhc=>rfl|omega|(intro hc;omega)|(intro hc;rw[hc];rfl))):Hd P n N H0 Q c ks ⟨fF,fL⟩:=go ht k h he hp next
theorem gmy {tb:Tb} (ht:tbB P tb=true) (k:Nat) (is:List Nat) {c c':Cf} {ks':List Kt} {F':(Nat->Nat)->Nat->PV} {L':(Nat->Nat)->Nat->Blk} {ps:(Nat->Nat)->List Prop} {as0 bs:(Nat->Nat)->List Nat} (next :∀ B:Nat->Nat,Hd P n N H0 Q c' ks' ⟨F' B,L' B⟩) (h:∀ B,runE tb n k is B c ks fF fL [] [] []=some ⟨c',ks',F' B,L' B,ps B,as0 B,bs B⟩:=by exact λ_=>rfl) (he:∀ B,as0 B=bs B:=by exact λ_=>rfl) (hp:∀ B,AllP (ps B):=by intro B;repeat' (first|exact trivial|refine And.intro ?_ ?_|exact λhc=>hc|exact rfl|exact λhc=>rfl|omega|(intro hc;omega)|(intro hc;rw[hc];rfl))):Hd P n N H0 Q c ks ⟨fF,fL⟩:=gmp ht k is h he hp next
theorem gXy {tb:Tb} (ht:tbB P tb=true) (order:List Nat) (f:Nat) {xs:Option (List Nat)} {fuel:Nat} {listed:Array Bool} {F':Nat->PV} {L':Nat->Blk} {ps:List Prop} {as0 bs:List Nat} (next :Hv P n N H0 Q xs all f (lst listed order) ks ⟨F',L'⟩) (hf:fuel=f+order.length:=by exact rfl) (hc:chkV n all order listed=true:=by kernel_rfl) (h:runV tb xs all order fF fL [] [] []=some ⟨F',L',ps,as0,bs⟩:=by exact rfl) (he:as0=bs:=by exact rfl) (hp:AllP ps:=by repeat' (first|exact trivial|refine And.intro ?_ ?_|exact λhc=>hc|exact rfl|exact λhc=>rfl|omega|(intro hc;omega)|(intro hc;rw[hc];rfl))):Hv P n N H0 Q xs all fuel listed ks ⟨fF,fL⟩:=gov ht order f hf hc h he hp next
end Go.SW.V
namespace Go.SW
open Go.RowKit
variable {P:Program}
theorem join_fn {G:Gb} {f:FuncId} (cb:Ad_ P f)
   (hN:∀ (a:Option Addr) (c:Nat) (sep:ByteArray) (w:World),Calls P f #[.slice a 0 c, .string sep] w λe w'=>e = .returned (.string ⟨#[]⟩)/\w'=w)
   (hJ:∀ (bk o c:Nat) (xs:List ByteArray) (sep:ByteArray) (w:World),(∀ (j:Nat) x,xs[j]? = some x->w.cell? ⟨bk,o+j,none⟩=some (.string x))->bk<w.heap.size->xs.length<=140737488355328->xs.length<=c ->
     (Go.Lib.join (xs.map (·.data.toList)) sep.data.toList).length<=140737488355328 ->
     Calls P f #[.slice (some ⟨bk,o,none⟩) xs.length c, .string sep] w λe w'=>e = .returned (.string ⟨(Go.Lib.join (xs.map (·.data.toList)) sep.data.toList).toArray⟩)/\Below w.heap.size w w')
   (xs:List Bs) (sep:Bs) (hl:(V.joinB xs sep).length<=140737488355328):Fn P G f [.sl strc xs, .str sep] (.str (V.joinB xs sep)):=by
 refine⟨cb,rfl,λN H L w us hg hsim hm=>?_⟩
 obtain⟨v1,_,rfl,h1,h2⟩:=hsim.inv_cons
 obtain⟨v2,_,rfl,h3,h4⟩:=h2.inv_cons
 cases h4.inv_nil
 rw[h3.inv_str.1]
 obtain⟨k,⟨⟨a,c,rfl,hc⟩,hx⟩,hb⟩:=h1.slh
 have fin:∀ e w',(e = .returned (str (V.joinB xs sep))/\Below w.heap.size w w')->∃ v H',e=Ending.returned v/\Sim H' (.str (V.joinB xs sep)) v/\HLe H H'/\Mem N H' L w':=λe w' ⟨he,hb⟩=>⟨_,H,he,Sim.str (by omega), .refl H,Mem.below hm hb⟩
 cases xs with
 |nil=>exact (hN a c _ w).mono λe w' ⟨he,hw⟩=>fin e w' ⟨by rw[he];rfl,hw ▸ Below.refl _ _⟩
 |cons x r=>
   obtain⟨cs,hE,b,off,l,cap,c',T,fr,e1,e2,e3,e4⟩:=hx 0 (by simp)
   obtain rfl :k=1:=hE.1.symm
   have e1':=e1
   injection e1' with e5 e6 e7
   subst e5
   have hbk:b<w.heap.size:=by
     have :=hm.h _ _ e2
     by_cases q:b<w.heap.size
     . exact q
     . rw[Array.getElem?_eq_none (by omega)] at this;cases this
   have hcell:∀ (j:Nat) y,((x::r).map λs:Bs=>(⟨s.toArray⟩:ByteArray))[j]? = some y->w.cell? ⟨b,off+j,none⟩=some (.string y):=λj y hy=>by
     rw[List.getElem?_map] at hy
     cases hz:(x::r)[j]? with
     |none=>rw[hz] at hy;cases hy
     |some z=>
       rw[hz] at hy;cases hy
       obtain⟨hj,rfl⟩:=List.getElem?_eq_some_iff.1 hz
       obtain⟨ds,hF,hs⟩:=hx j hj
       obtain⟨v,hv,hsv⟩:=hF.2.1.get (i:=0) (p:= .str (x::r)[j]) rfl
       have :=hm.cellAt hs hv
       simp only[sBlk,sOff,Nat.mul_one,Nat.add_zero] at this
       rw[this,hsv.inv_str.1];rfl
   have hmm:((x::r).map λs:Bs=>(⟨s.toArray⟩:ByteArray)).map (·.data.toList)=x::r:=by
     rw[List.map_map];exact List.map_id'' (λ_=>rfl) _
   have :=hJ b off c ((x::r).map λs:Bs=>(⟨s.toArray⟩:ByteArray)) ⟨sep.toArray⟩ w hcell hbk (by rw[List.length_map];exact hb) (by rw[List.length_map];exact hc) (by rw[hmm];rw[V.joinB_eq] at hl;exact hl)
   rw[hmm,List.length_map] at this
   refine this.mono λe w' ⟨he,hw⟩=>fin e w' ⟨by rw[he,V.joinB_eq];rfl,hw⟩
end Go.SW
namespace Go.SW.V
open Go.SW
def I5_ (s2:List P_):List P_->Nat->Bool
 |[],k=>true
 | x::t,k=>(bif !(decide (x=(gt s2 k))) then
 false
 else I5_ s2 t (k+1))
def Pq_ (s1:List P_) (s2:List P_):Bool:=
 (bif !decide ((s1.length:Int)=(s2.length:Int)) then
 false
 else I5_ s2 s1 0)
def J5_ (a:Ap_) (b:Ap_):Bool:=
 ((decide (a.Ba_=b.Ba_))&&(Pq_ a.binds b.binds))
def Cy_ (s:Bs):Bs:=
 (bif decide (s=[]) then
 [46]
 else s)
def C0_ (n:Int):Bs:=
 (decB n)
def Dd_ (b:Ap_):(List W_):=
 b.Ba_
def Cl_:List M_->Int->Int
 |[],n=>n
 | x::t,n=>(bif !(x.Ui_) then
 Cl_ t (n+1)
 else Cl_ t n)
def Dp_ (l:Ae_):Int:=
 Cl_ l.items 0
def C8_:List P_->List P_->(List P_)
 |[],out=>out
 |x::t,out=>C8_ t (out++[x])
def Cm_ (b:Ap_):(List P_):=
 C8_ b.binds []
theorem Qi_ (s:Bs):(Cy_ s).length<=s.length+1:=by
 unfold Cy_
 by_cases h:s=[]
 . rw[decide_eq_true h];simp
 . rw[decide_eq_false h];simp
theorem J9_ (n:Int):(C0_ n).length<=20:=V0_ n
theorem lrdy_b0:∀ (l:List M_) (n:Int),n<=Cl_ l n/\Cl_ l n<=n+l.length
 |[],n=>by simp[Cl_]
 |x::t,n=>by
   unfold Cl_
   have h1:=lrdy_b0 t n
   have h2:=lrdy_b0 t (n+1)
   cases e:!x.Ui_ with
   |true=>simp only[cond_true,List.length_cons];omega
   |false=>simp only[cond_false,List.length_cons];omega
theorem lrdy_b (l:Ae_):0<=Dp_ l/\Dp_ l<=l.items.length:=by
 have :=lrdy_b0 l.items 0
 unfold Dp_
 omega
def Gj_ (a:Cq_):Nat->Bs->Nat->Bs
 |0,_,_=>default
 | f2+1,s,v=>(bif decide ((v:Int)<32) then
 (bif decide ((IntKind.wrap .u32 ((BitVec.ofInt (IntKind.bits .u32) (Int.fdiv a.Z7_ (2 ^ (min ((v:Int):Int).toNat (IntKind.bits .u32)))) &&& BitVec.ofInt (IntKind.bits .u32) 1).toNat))=1) then
 Gj_ a f2 (s++([58]++(itoB (v:Int)))) (v+1)
 else Gj_ a f2 s (v+1))
 else s)
def Fq_ (a:Cq_):Bs:=
 Gj_ a (32-0+1) (itoB a.level) 0
def I8_ (kind:Int):Bs:=
 (bif decide (0<=(kind-1)) then
 (bif decide ((kind-1)<([[108,111,115,116],[114,101,108,101,97,115,101,100],[119,111,107,101,110],[114,101,102,117,115,101,100],[98,101,103,117,110],[111,118,101,114]].length:Int)) then
 (gt [[108,111,115,116],[114,101,108,101,97,115,101,100],[119,111,107,101,110],[114,101,102,117,115,101,100],[98,101,103,117,110],[111,118,101,114]] (((kind-1)).toNat))
 else lt (C0_ kind) λr=>
 r)
 else lt (C0_ kind) λr1=>
 r1)
def Dn_ (p:C_) (k:Int):Bs:=
 (bif decide (k<(p.places.length:Int)) then
 ((gt p.places ((k).toNat)).name)
 else (itoB k))
end Go.SW.V
namespace Go.SW
variable {P:Program} {n:Nat} {N:Rest} {H0:Env} {all rest:List Oper} {Q:Qs} {ks:List Kt} {T ty d:Nat} {pos:String} {af:Array Edge} {x:Operand} {K:St->Prop}
def E2 (P:Program) (n:Nat) (N:Rest) (H0:Env) (all:List Oper) (o:Oper) (js:List Nat) (s:St) (K:St->Prop):Prop:=
 ∀ F H L,Abs H0 s F H L->Op1 P n N all o (λF' H' L'=>HLe H H'/\(∀ q,memB js q=false->L' q=L q)/\∃ s',Abs H0 s' F' H' L'/\K s') F H L
theorem ef2 {o:Oper} {js:List Nat} {s:St} (h:E2 P n N H0 all o js s (λs'=>Hd P n N H0 Q (.ops all rest) ks s')):Hd P n N H0 Q (.ops all (o::rest)) ks s:=λF H L ha=>
 ow1 ((h F H L ha).imp λF' H' L' ⟨_,_,s',h1,h2⟩=>h2 F' H' L' h1)
theorem ve2s {xs:List Nat} {fuel:Nat} {listed:Array Bool} {o:Oper} {js:List Nat} {s:St} (i:Nat) (hi:nth all i=some o) (hr:Region.ready .any all.toArray listed=[i]) (hj:js.all (memB xs)=true) (h:E2 P n N H0 all o js s (λs'=>Hv P n N H0 Q (some xs) all fuel (listed.setIfInBounds i true) ks s')):Hv P n N H0 Q (some xs) all (fuel+1) listed ks s:=by
 intro F H L Lk ha hL
 rw[Jw_] at hi
 have hle:∀ L':Ls,(∀ q,memB js q=false->L' q=L q)->LkR (some xs) Lk L':=λL' hL' q=>by
   rw[hL q]
   cases e:memB xs q with
   |true=>rfl
   |false=>
     refine (hL' q ?_).symm
     cases e2:memB js q with
     |false=>rfl
     |true=>have :=List.all_eq_true.1 hj q (Mo_ e2);rw[e] at this;cases this
 refine vw_e i hi hr ((h F H L ha).imp λF' H' L' ⟨h1,h2,s',h3,h4⟩=>⟨⟨h1,λq x hx=>?_⟩,h4 F' H' L' Lk h3 (hle L' h2)⟩)
 have :=hle L' h2 q
 rw[this] at hx
 cases e:memB xs q with
 |true=>rw[e] at hx;cases hx
 |false=>rw[e] at hx;exact hx
def tlL {α:Type} (b T:Nat) (u:Value) (k e:Nat) (enc:α->List PV) (xs:List α):Nat->Blk:=lups (lups (λ_=> .no) 0 (.box b T [.osl 1])) 1 (.arr u k e enc xs)
def two (L M:Ls) (i j:Nat):Ls:=λq=>if q=i then M 0 else if q=j then M 1 else L q
structure Fs (P:Program) (G:Gb) (f:FuncId) (args:List PV) (T k e:Nat) {α:Type} (enc:α->List PV) (xs ys:List α):Prop where
 cb:Ad_ P f
 run:∀ (N:Rest) (H:Hp) (L:Ls) (w:World) (i j b:Nat) (vs:List Value) (u:Value),G.p H->Sims H args vs->i≠j->L i=some (b,bx T [u]) ->
   SimB (tlL b T u k e enc xs) H (.arr u k e enc xs) (L j)->Mem N H L w ->
   Calls P f (Value.pointer (some ⟨b,0,none⟩)::vs).toArray w λen w'=>∃ H' u' M,en = .returned (.tuple #[])/\M 0=some (b,bx T [u'])/\SimB (tlL b T u' k e enc ys) H' (.arr u' k e enc ys) (M 1)/\HLe H H'/\Mem N H' (two L M i j) w'
def fsK {α:Type} (tb:Tb) (rs:List ResultVar) (b T k e:Nat) (enc:α->List PV) (ys:List α):Qs:=λen s=>rtK tb rs (.tup []) en s/\s.L 0 = .box b T [.osl 1]/\∃ u',s.L 1 = .arr u' k e enc ys
theorem rsn {α:Type} {tb:Tb} {rs:List ResultVar} {b T k e:Nat} {enc:α->List PV} {ys:List α} {s:St} {ps:List PV} {as0 bs:List Nat} {u:Value} (h:Id_ tb s rs=some (ps,as0,bs)) (he:as0=bs) (hp:PLe (tupP ps) (.tup [])) (hb:s.L 0 = .box b T [.osl 1]) (hl:s.L 1 = .arr u k e enc ys):Hd P n N H0 (fsK tb rs b T k e enc ys) (.ex .normal) [] s:=⟨⟨.inl rfl,ps,as0,bs,h,he,hp⟩,hb,u,hl⟩
theorem mem_two {N:Rest} {H H':Hp} {L M:Ls} {w w':World} {i j:Nat} (h:Mem N H L w) (hij:i≠j) (k:Mem (N.plus (lupd (lupd L i none) j none)) H' M w'):Mem N H' (two L M i j) w':=by
 have hr:∀ {q:Nat} {x:Nat×Obj},lupd (lupd L i none) j none q=some x->q≠j/\q≠i/\L q=some x:=λhq=>by
   obtain⟨h1,h2⟩:=Le_ hq
   obtain⟨h3,h4⟩:=Le_ h2
   exact⟨h1,h3,h4⟩
 have hl:∀ {q:Nat} {x:Nat×Obj},q≠i->q≠j->L q=some x->lupd (lupd L i none) j none q=some x:=λh1 h2 h3=>by
   rw[B8_ _ _ _ _ h2,B8_ _ _ _ _ h1];exact h3
 have hinj:∀ (p q:Nat) (x y:Nat×Obj),lupd (lupd L i none) j none p=some x->lupd (lupd L i none) j none q=some y->x.1=y.1->p=q:=λp q x y hp hq e=>h.inj p q x y (hr hp).2.2 (hr hq).2.2 e
 have hnb:∀ b o,N.heap b=some o->∀ (q:Nat) (x:Nat×Obj),lupd (lupd L i none) j none q=some x->x.1≠b:=λb o hb q x hq=>h.nBoth b o hb q x (hr hq).2.2
 have hsub:Mem N H (lupd (lupd L i none) j none) w:=h.sub (λq x hq=>⟨q,(hr hq).2.2⟩) hinj
 have hdis:∀ {a:Nat} {x:Nat×Obj} {q:Nat} {y:Nat×Obj},M a=some x->q≠i->q≠j->L q=some y->x.1≠y.1:=λ{a x q y} ha h1 h2 hq e=>by
   obtain⟨xb,xo⟩:=x
   obtain⟨yb,yo⟩:=y
   have e':xb=yb:=e
   have hn:=(k.nl a xb xo ha).1
   have :(N.plus (lupd (lupd L i none) j none)).heap yb=some yo:=Rest.plus_of hsub (i:=q) (hl h1 h2 hq)
   rw[e'] at hn
   rw[hn] at this;cases this
 refine h.unframe (Lr:=lupd (lupd L i none) j none) (λq x hq=>⟨q,(hr hq).2.2⟩) hinj k (λq x hq=>?_) (λp q x y hp hq e=>?_) hnb
 . unfold two at hq
   split at hq
   . exact .inl ⟨0,hq⟩
   . split at hq
     . exact .inl ⟨1,hq⟩
     . rename_i h1 h2;exact .inr ⟨q,hl h1 h2 hq⟩
 . have hM:=k.inj
   unfold two at hp hq
   by_cases p1:p=i
   . rw[if_pos p1] at hp
     by_cases q1:q=i
     . rw[p1,q1]
     . rw[if_neg q1] at hq
       by_cases q2:q=j
       . rw[if_pos q2] at hq;have :=hM 0 1 x y hp hq e;cases this
       . rw[if_neg q2] at hq;exact (hdis hp q1 q2 hq e).elim
   . rw[if_neg p1] at hp
     by_cases p2:p=j
     . rw[if_pos p2] at hp
       by_cases q1:q=i
       . rw[if_pos q1] at hq;have :=hM 1 0 x y hp hq e;cases this
       . rw[if_neg q1] at hq
         by_cases q2:q=j
         . rw[p2,q2]
         . rw[if_neg q2] at hq;exact (hdis hp q1 q2 hq e).elim
     . rw[if_neg p2] at hp
       by_cases q1:q=i
       . rw[if_pos q1] at hq;exact (hdis hq p1 p2 hp e.symm).elim
       . rw[if_neg q1] at hq
         by_cases q2:q=j
         . rw[if_pos q2] at hq;exact (hdis hq p1 p2 hp e.symm).elim
         . rw[if_neg q2] at hq;exact h.inj p q x y hp hq e
theorem mem_both {N:Rest} {H:Hp} {L:Ls} {w:World} {i j:Nat} (h:Mem N H L w) (hij:i≠j):Mem (N.plus (lupd (lupd L i none) j none)) H (λq=>if q=0 then L i else if q=1 then L j else none) w:=by
 have hr:∀ {q:Nat} {x:Nat×Obj},lupd (lupd L i none) j none q=some x->q≠j/\q≠i/\L q=some x:=λhq=>by
   obtain⟨h1,h2⟩:=Le_ hq
   obtain⟨h3,h4⟩:=Le_ h2
   exact⟨h1,h3,h4⟩
 have hc:∀ (q:Nat) (x:Nat×Obj),(if q=0 then L i else if q=1 then L j else none)=some x->(q=0/\L i=some x)\/(q=1/\L j=some x):=λq x hq=>by
   split at hq
   . rename_i e;exact .inl ⟨e,hq⟩
   . split at hq
     . rename_i e;exact .inr ⟨e,hq⟩
     . cases hq
 refine h.frame _ _ (λq x hq=>?_) (λq x hq=>⟨q,(hr hq).2.2⟩) (λp q x y hp hq e=>?_) (λp q x y hp hq e=>h.inj p q x y (hr hp).2.2 (hr hq).2.2 e) (λp q x y hp hq e=>?_)
 . rcases hc q x hq with ⟨_,h1⟩|⟨_,h1⟩
   . exact⟨i,h1⟩
   . exact⟨j,h1⟩
 . rcases hc p x hp with ⟨e1,h1⟩|⟨e1,h1⟩
   . rcases hc q y hq with ⟨e2,h2⟩|⟨e2,h2⟩
     . rw[e1,e2]
     . exact (hij (h.inj _ _ _ _ h1 h2 e)).elim
   . rcases hc q y hq with ⟨e2,h2⟩|⟨e2,h2⟩
     . exact (hij (h.inj _ _ _ _ h2 h1 e.symm)).elim
     . rw[e1,e2]
 . obtain⟨g1,g2,g3⟩:=hr hq
   rcases hc p x hp with ⟨_,h1⟩|⟨_,h1⟩
   . exact g2 (h.inj _ _ _ _ g3 h1 e.symm)
   . exact g1 (h.inj _ _ _ _ g3 h1 e.symm)
theorem fs_cw {α:Type} {tb:Tb} {G:Gb} {m:Nat} {f:FuncId} {fn:Func} {c:Code} {args:List PV} {T k e:Nat} {enc:α->List PV} {xs ys:List α} (ht:tbB P tb=true) (hf:P.funcs[f]? = some fn) (hb:fn.body=some c) (hn:fn.ntmps=m) (hs:Nat.ble (args.length+1) m=true) (hcb:Ad_ P f) (hna:Cs_ args=true)
   (h:PV.wfs args->xs.length<=140737488355328->∀ b u N H,G.p H->Hd P m N ⟨H,G⟩ (fsK tb fn.results.toList b T k e enc ys) (.code c) [] ⟨Ni_ (.own 0 b 0::args),tlL b T u k e enc xs⟩):Fs P G f args T k e enc xs ys:=by
 refine⟨hcb,λN H L w i j b vs u hg hsim hij hL hx hm=>?_⟩
 subst hn
 have hs':Sims H (.own 0 b 0::args) (Value.pointer (some ⟨b,0,none⟩)::vs):=hsim.cons Sim.own
 have hlen:xs.length<=140737488355328:=by obtain⟨_,_,_,h⟩:=hx;exact h
 have h1:=h hsim.wf hlen b u (N.plus (lupd (lupd L i none) j none)) H hg (Jy_ (Value.pointer (some ⟨b,0,none⟩)::vs).toArray) H (λq=>if q=0 then L i else if q=1 then L j else none) ⟨.refl H,hg,λt=>Kx_ hs' (by simp [Cs_,hna,PV.noOsl]) t,λq=>by
   by_cases e1:q=1
   . subst e1;exact hx
   . by_cases e0:q=0
     . subst e0;exact ⟨[u],hL,by
         refine⟨rfl,λa p v hp hv=>?_⟩
         cases a with
         |zero=>simp at hp hv;subst hp;subst hv;simp[SimT,tlL,lups]
         |succ a=>simp at hp⟩
     . simp only[tlL,Hd_ _ _ _ _ e1,Hd_ _ _ _ _ e0];trivial⟩
 refine Hq_ (R:=λv H' L'=>v = .tuple #[]/\∃ u',L' 0=some (b,bx T [u'])/\SimB (tlL b T u' k e enc ys) H' (.arr u' k e enc ys) (L' 1)) (H0:=H) hf hb (by have :=Nat.le_of_ble_eq_true hs;simp[hsim.1];omega) (Jk_ (λen F' H' L' hq=>?_) h1) (mem_both hm hij) ?_
 . obtain⟨s',ha',hq',hq0,u',hq1⟩:=hq
   obtain⟨he,v,hr,hv⟩:=Na_ (N:=N.plus (lupd (lupd L i none) j none)) ht ha' hq'
   obtain⟨vs0,rfl,hvs⟩:=hv.inv_tup
   have hz:vs0=[]:=List.length_eq_zero_iff.1 hvs.1
   subst hz
   have h3:=ha'.l 0
   rw[hq0] at h3
   obtain⟨vc,hL0,hl0,hsv⟩:=h3
   have h4:=ha'.l 1
   rw[hq1] at h4
   have hvc:vc=[u']:=by
     match vc,hl0 with
     |[v],_=>
       have :=hsv 0 (.osl 1) v rfl rfl
       simp only[SimT,hq1] at this
       rw[this]
   subst hvc
   rcases he with rfl|rfl
   . exact⟨_,hr,ha'.le,rfl,u',hL0,h4⟩
   . exact⟨_,hr,ha'.le,rfl,u',hL0,h4⟩
 . intro v H' L' w' ⟨hv,u',h0,h1⟩ hl hm'
   subst hv
   exact⟨H',u',L',rfl,h0,h1,hl,mem_two hm hij hm'⟩
theorem fcall {α:Type} {f:FuncId} {args:List PV} {as0:Array Operand} {ats:Array TypeId} {i j b b' T0 k e off:Nat} {u:Value} {enc:α->List PV} {xs ys:List α} {s:St} (h:Fs P H0.g f args T0 k e enc xs ys) (ha:argsP s.F x as0.toList=some (f, .own i b off::args)) (hoff:off=0) (hb:s.L i = .box b' T0 [.osl j]) (hj:s.L j = .arr u k e enc xs) (hij:Nat.beq i j=false) (hbb:b'=b) (hd:Nat.blt d n=true)
   (kk:∀ u',K ⟨updp (Iz_ j s.F) d (.tup []),lups (lups (Ho_ j s.L) j (.arr u' k e enc ys)) i (.box b T0 [.osl j])⟩):E2 P n N H0 all ⟨some d, .call ⟨.value x,as0,ats⟩,ty,pos,af,none⟩ [i,j] s K:=by
 intro F H L hab
 subst hoff;subst hbb
 have hij':i≠j:=λq=>by subst q;simp at hij
 obtain⟨us,h1,h2⟩:=Is_ (ats:=ats) hab.f ha h.cb
 obtain⟨v0,vs,rfl,h3,h4⟩:=h1.inv_cons
 have h5:=h3.inv_own
 subst h5
 have h6:=hab.l i
 rw[hb] at h6
 obtain⟨vc,hL,hl,hsv⟩:=h6
 have hvc:vc=[u]:=by
   match vc,hl with
   |[v],_=>
     have :=hsv 0 (.osl j) v rfl rfl
     simp only[SimT,hj] at this
     rw[this]
 subst hvc
 have h7:=hab.l j
 rw[hj] at h7
 intro a w hA hm
 rw[if_pos (by simp[Region.wanted])]
 unfold Oper.wp
 rw[hA.eval,h2]
 refine (h.run N H L w i j b' vs u hab.g h4 hij' hL h7 hm).mono λe' w' ⟨H',u',M,he,hM0,hM1,hl',hm'⟩=>?_
 subst he
 have g1:=(hab.mono hl').turn j (B:= .arr u' k e enc ys) (x:=M 1) hM1
 have g2:=g1.turnB i (B:= .box b' T0 [.osl j]) (x:=M 0) trivial ⟨[u'],hM0,rfl,λa p v hp hv=>by
   cases a with
   |zero=>
     simp at hp hv;subst hp;subst hv
     simp only[SimT,Hd_ _ _ _ _ (Ne.symm hij'),Ec_]
   |succ a=>simp at hp⟩
 have e1:lupd (lupd L j (M 1)) i (M 0)=two L M i j:=by
   funext q
   unfold two
   by_cases q1:q=i
   . subst q1;rw[Cj_,if_pos rfl]
   . rw[B8_ _ _ _ _ q1,if_neg q1]
     by_cases q2:q=j
     . subst q2;rw[Cj_,if_pos rfl]
     . rw[B8_ _ _ _ _ q2,if_neg q2]
 rw[e1] at g2
 refine⟨_,H',_,hA.put (by simpa using hd) (.tuple #[]),hm',hl',λq hq=>?_,_,Abs.put (p:= .tup []) g2 d (Sim.tup (cs:=[]) (vs:=[]) rfl (λ_ _ _ h=>by cases h)),kk u'⟩
 simp only[memB] at hq
 unfold two
 have q1:q≠i:=λe=>by subst e;simp at hq
 have q2:q≠j:=λe=>by subst e;simp at hq
 rw[if_neg q1,if_neg q2]
end Go.SW
namespace Go.SW.V
open Go.SW
variable {P:Program} {n:Nat} {N:Rest} {H0:Env} {all rest:List Oper} {Q:Qs} {ks:List Kt} {fF:Nat->PV} {fL:Nat->Blk} {T ty d:Nat} {pos:String} {af:Array Edge} {x:Operand} {K:St->Prop}
theorem rsn {α:Type} {tb:Tb} {rs:List ResultVar} {b T k e:Nat} {enc:α->List PV} {ys zs:List α} {ps:List PV} {as0 bs:List Nat} {u:Value} (hy:zs=ys) (h:Id_ tb ⟨fF,fL⟩ rs=some (ps,as0,bs)) (he:as0=bs) (hp:PLe (tupP ps) (.tup [])) (hb:fL 0 = .box b T [.osl 1]) (hl:fL 1 = .arr u k e enc ys):Hd P n N H0 (fsK tb rs b T k e enc zs) (.ex .normal) [] ⟨fF,fL⟩:=by subst hy;exact SW.rsn h he hp hb hl
theorem fcall {α:Type} {f:FuncId} {args:List PV} {as0:Array Operand} {ats:Array TypeId} {i j b b' T0 k e off:Nat} {u:Value} {enc:α->List PV} {xs ys:List α} (h:Fs P H0.g f args T0 k e enc xs ys) (ha:argsP fF x as0.toList=some (f, .own i b off::args)) (hoff:off=0) (hb:fL i = .box b' T0 [.osl j]) (hj:fL j = .arr u k e enc xs) (hij:Nat.beq i j=false) (hbb:b'=b) (hd:Nat.blt d n=true)
   (kk:∀ u',K ⟨updp (Iz_ j fF) d (.tup []),lups (lups (Ho_ j fL) j (.arr u' k e enc ys)) i (.box b T0 [.osl j])⟩):E2 P n N H0 all ⟨some d, .call ⟨.value x,as0,ats⟩,ty,pos,af,none⟩ [i,j] ⟨fF,fL⟩ K:=SW.fcall (s:=⟨fF,fL⟩) h ha hoff hb hj hij hbb hd kk
theorem Uz_ {α:Type} {e k:Nat} {u:Value} {enc:α->List PV} {xs:List α} {o:Oper} {js:List Nat} (i:Nat) (hb:fL i = .arr u k e enc xs) (h:E2 P n N H0 all o js ⟨Wi_ i enc xs fF,Uh_ i enc xs fL⟩ K):E2 P n N H0 all o (i::js) ⟨fF,fL⟩ K:=by
 intro F H L ha a w hA hm
 obtain⟨H1,hl1,hg1,hm1⟩:=hm.giveO (i:=i) rfl
 have ha1:=ha.give hb hl1 hg1
 refine (h F H1 (lupd L i none) ha1).imp (λF' H' L' ⟨x,y,z⟩=>⟨hl1.trans x,λq hq=>?_,z⟩) a w hA hm1
 simp only[memB] at hq
 have hne:q≠i:=λe=>by subst e;simp at hq
 have hb:Nat.beq q i=false:=by cases e:Nat.beq q i with
   |false=>rfl
   |true=>exact (hne (Nat.eq_of_beq_eq_true e)).elim
 rw[hb,cond_false] at hq
 exact (y q hq).trans (B8_ _ _ _ _ hne)
end Go.SW.V
namespace Go.SW
end Go.SW
namespace Go.SW.V
open Go.SW
def Dj_ (t:List Bs) (words:List Bs):List Bs:=
 (t++[joinB words [32]])
theorem Kp_ (t words:List Bs):(Dj_ t words).length=t.length+1:=by simp[Dj_]
theorem Q0_ (a:Cq_):∀ (f v:Nat) (s:Bs),s.length<=21+22*v->v<=32->(Gj_ a f s v).length<=725
 |0,_,_,_,_=>by show ([]:Bs).length<=725;simp
 |f+1,v,s,hs,hv=>by
   unfold Gj_
   let Q:Bs->Prop:=λr=>r.length<=725
   refine bt (P:=Q) (λe=>?_) λ_=>by show s.length<=725;omega
   have hv':v<32:=by have :=of_decide_eq_true e;omega
   refine bt (P:=Q) (λ_=>Q0_ a f (v+1) _ ?_ (by omega)) λ_=>Q0_ a f (v+1) _ (by omega) (by omega)
   have :=H9_ (v:Int)
   simp only[List.length_append,List.length_cons,List.length_nil];omega
theorem ltext_len (a:Cq_):(Fq_ a).length<=725:=Q0_ a _ 0 _ (by have :=H9_ a.level;omega) (by decide)
theorem rwhat_len (k:Int):(I8_ k).length<=20:=by
 unfold I8_ lt
 let Q:Bs->Prop:=λr=>r.length<=20
 refine bt (P:=Q) (λe1=>bt (P:=Q) (λe=>?_) λ_=>J9_ k) λ_=>J9_ k
 have h1:(k-1).toNat<6:=by
   have :=of_decide_eq_true e
   have :=of_decide_eq_true e1
   simp only[List.length_cons,List.length_nil] at *
   omega
 have key:∀ n,n<6->(gt [[108,111,115,116],[114,101,108,101,97,115,101,100],[119,111,107,101,110],[114,101,102,117,115,101,100],[98,101,103,117,110],[111,118,101,114]] n:Bs).length<=20:=by decide +kernel
 exact key _ h1
theorem Q3_ (p:C_) (k:Int) (h:p.places.length<=100000/\0<=k/\∀ y∈p.places,y.name.length<=300):(Dn_ p k).length<=300:=by
 unfold Dn_
 let Q:Bs->Prop:=λr=>r.length<=300
 refine bt (P:=Q) (λe=>h.2.2 _ (Ib_ ?_)) λ_=>Nat.le_trans (H9_ k) (by decide)
 have :=of_decide_eq_true e
 omega
def RpOk (p:C_) (place:Int) (x:U_):Prop:=PoOk p/\(0<=place/\place<p.places.length)/\(∀ y∈p.places,y.name.length<=300)/\PrOk x/\BkB x.book/\RoB x.D_/\NoB x.notes
def RpP (p:C_):Prop:=p.places.length<=100000/\∀ y∈p.places,y.name.length<=300
theorem T3_:∀ (l:List Gi_) (out:List Q_) (q:Q_),q∈Bk_ l out->q∈out\/∃ r∈l,r.q=q
 |[],out,q,h=> .inl h
 |x::t,out,q,h=>by
   rcases T3_ t _ q h with h|⟨r,hr,e⟩
   . rcases List.mem_append.1 h with h|h
     . exact .inl h
     . exact .inr ⟨x,by simp,(List.mem_singleton.1 h).symm⟩
   . exact .inr ⟨r,by simp[hr],e⟩
theorem queues_f {s:F_} (h:RoB s) {q:Q_} (hq:q∈X_ s):q.name.length<=16/\q.dead.length<=16/\1<=q.most/\q.most<=64:=by
 rcases T3_ s.rows [] q hq with h1|⟨r,hr,e⟩
 . cases h1
 . rw[<- e];exact Qd_ (h r hr)
theorem Xo_:∀ (l out:List P_),C8_ l out=out++l
 |[],out=>by simp[C8_]
 |x::t,out=>by unfold C8_;rw[Xo_ t];simp
theorem Jj_ (b:Ap_):Cm_ b=b.binds:=by unfold Cm_;rw[Xo_];rfl
theorem llen_eq (l:Ae_):A8_ l=(l.items.length:Int):=rfl
theorem rise_ok2 {s:F_} {k:Int} (h:StkOk s):RiOk (Ff_ s k):=by
 unfold Ff_
 refine bt (P:=RiOk) (λ_=>Sb_) λe=>?_
 simp only[Bool.or_eq_false_iff,decide_eq_false_iff_not] at e
 exact h.2.1 _ (by omega)
theorem Nd_ (b:Ap_):Dd_ b=b.Ba_:=rfl
theorem X1_ {h:List Pair} (e:Hh_ h=0):h.length<=8:=by
 unfold Hh_ at e
 split at e
 . cases e
 . omega
theorem bk_want {b:Ap_} (h:BkOk b) (k:BkB b):b.binds.length<=1000/\∀ y∈b.binds,y.want.length<=1000:=
 ⟨by have :=h.2.1;omega,λy hy=>by have :=X1_ (k.2 y hy).2.2.2.1;omega⟩
def I7_ (n:D5_):Bs:=
 (joinB [[110,111,116,101],(C0_ n.tick),(I8_ n.kind),(Cy_ n.text)] [32])
def Eh_:List P_->List Bs->List Bs
 |[],l1=>l1
 | x1::t1,l1=>(lt1 ((bif x1.up then
 [117,112]
 else [113,117,101,117,101])) (λto_=>
 (lt1 ((bif x1.all then
 [97,108,108]
 else [97,110,121])) (λall=>
 lt (Dj_ l1 [[98,105,110,100],x1.Bb_,x1.to',to_,(Cy_ (x1.key)),all,itoB ((x1.want).length:Int)]) λr3=>
 Eh_ t1 r3))))
def D2_ (x:U_):List W_->List Bs->List Bs
 |[],l=>lt (Cm_ x.book) λr2=>
 Eh_ r2 l
 |x2::t2,l=>lt (Dj_ l [[115,104,111,112],x2.name,(gt [[100,105,114,101,99,116],[102,97,110,111,117,116],[116,111,112,105,99],[104,101,97,100,115],[114,101,108,101,97,115,101]] ((x2.sort).toNat)),(Cy_ (x2.to'))]) λr1=>
 D2_ x t2 r1
def Hf_ (t:List Bs) (x:U_):List Bs:=
 lt (Dd_ x.book) λr=>
 D2_ x r t
def E8_ (p:C_) (x:U_):Nat->Nat->List Bs->List Bs
 |0,_,_=>default
 | f2+1,v,l1=>(bif decide ((v:Int)<16) then
 lt (Ff_ x.D_ (v:Int)) λr3=>
 lt (Dr_ r3) λr4=>
 (bif decide (0<r4) then
 lt (Iq_ r3) λr5=>
 lt (Dj_ l1 [[114,105,115,101],(Dn_ p (v:Int)),(C0_ (Dr_ r3)),itoB (r5.length:Int)]) λr6=>
 E8_ p x f2 (v+1) r6
 else E8_ p x f2 (v+1) l1)
 else l1)
def Dw_ (p:C_) (x:U_):List Q_->List Bs->List Bs
 |[],l=>E8_ p x (16-0+1) 0 l
 |x1::t1,l=>lt (Gw_ x.D_ (x1.name)) λr1=>
 lt (Dj_ l [[113,117,101,117,101],x1.name,itoB (A8_ r1),(C0_ (x1.most)),itoB ((A8_ r1)-(Dp_ r1)),(Cy_ (x1.dead))]) λr2=>
 Dw_ p x t1 r2
def Gg_ (t:List Bs) (p:C_) (x:U_):List Bs:=
 lt (X_ x.D_) λr=>
 Dw_ p x r t
theorem Vp_:∀ (l:List P_) (t:List Bs),(Eh_ l t).length=t.length+l.length
 |[],t=>rfl
 |x::r,t=>by
   unfold Eh_ lt lt1
   rw[Vp_ r,Kp_];simp only[List.length_cons];omega
theorem Vo_ (x:U_):∀ (l:List W_) (t:List Bs),(D2_ x l t).length=t.length+l.length+x.book.binds.length
 |[],t=>by unfold D2_ lt;rw[Vp_,Jj_];rfl
 |y::r,t=>by
   unfold D2_ lt
   rw[Vo_ x r,Kp_];simp only[List.length_cons];omega
theorem tbook_len {t:List Bs} {x:U_} (h:BkOk x.book):(Hf_ t x).length<=t.length+40:=by
 unfold Hf_ lt Dd_
 rw[Vo_]
 have :=h.1;have :=h.2.1
 omega
theorem Pk_ (p:C_) (x:U_):∀ (f v:Nat) (t:List Bs),v<=16->16-v<f->(E8_ p x f v t).length<=t.length+(16-v)
 |0,_,_,_,h=>by omega
 |f+1,v,t,hv,hf=>by
   unfold E8_ lt
   let Q:List Bs->Prop:=λr=>r.length<=t.length+(16-v)
   refine bt (P:=Q) (λe=>?_) λ_=>by show t.length<=t.length+(16-v);omega
   have hv':v<16:=by have :=of_decide_eq_true e;omega
   refine bt (P:=Q) (λ_=>?_) λ_=>?_
   . have :=Pk_ p x f (v+1) (Dj_ t [[114,105,115,101],(Dn_ p (v:Int)),(C0_ (Dr_ (Ff_ x.D_ (v:Int)))),itoB ((Iq_ (Ff_ x.D_ (v:Int))).length:Int)]) (by omega) (by omega)
     rw[Kp_] at this
     exact Nat.le_trans this (by omega)
   . exact Nat.le_trans (Pk_ p x f (v+1) t (by omega) (by omega)) (by omega)
theorem Uc_ (p:C_) (x:U_):∀ (l:List Q_) (t:List Bs),(Dw_ p x l t).length<=t.length+l.length+16
 |[],t=>Pk_ p x _ 0 t (by decide) (by decide)
 |y::r,t=>by
   unfold Dw_ lt
   refine Nat.le_trans (Uc_ p x r _) ?_
   rw[Kp_];simp only[List.length_cons];omega
theorem tstock_len {t:List Bs} {p:C_} {x:U_} (h:StkOk x.D_):(Gg_ t p x).length<=t.length+24:=by
 unfold Gg_ lt
 have h1:=Q2_ h
 exact Nat.le_trans (Uc_ p x (X_ x.D_) t) (by omega)
theorem nall_eq (n:B7_):Dq_ n=n.kept:=rfl
def Er_:List D5_->List Bs->(List Bs)
 |[],l2=>l2
 |x1::t,l2=>Er_ t (l2++[(I7_ x1)])
def Gn_ (p:C_) (place:Int) (x:U_):Nat->Nat->List Bs->(List Bs)
 |0,_,_=>default
 | f4+1,v1,l1=>(bif decide ((v1:Int)<8) then
 (bif (((decide (0<((A8.get x.spent v1).count)))&&(decide ((v1:Int)<(p.grants.length:Int))))&&(decide (((gt p.grants v1).frm)=place))) then
 lt (Dj_ l1 [[115,112,101,110,116],(Dn_ p ((gt p.grants v1).to')),(C0_ ((A8.get x.spent v1).round)),itoB ((A8.get x.spent v1).count)]) λr6=>
 Gn_ p place x f4 (v1+1) r6
 else Gn_ p place x f4 (v1+1) l1)
 else lt (In_ x.notes) λr7=>
 lt (C0_ r7) λr8=>
 lt (Dj_ l1 [[110,111,116,101,115],r8]) λr9=>
 lt (Dq_ x.notes) λr10=>
 Er_ r10 r9)
def Gm_ (p:C_) (place:Int) (x:U_):Nat->Nat->List Bs->(List Bs)
 |0,_,_=>default
 | f5+1,v,l=>(bif decide ((v:Int)<16) then
 (bif decide (0<(A16.get x.seen v)) then
 lt (Dn_ p (v:Int)) λr3=>
 lt (C0_ (A16.get x.seen v)) λr4=>
 lt (Dj_ l [[115,101,101,110],r3,r4]) λr5=>
 Gm_ p place x f5 (v+1) r5
 else Gm_ p place x f5 (v+1) l)
 else Gn_ p place x (8-0+1) 0 l)
def Fv_ (p:C_) (place:Int) (x:U_):(List Bs):=
 lt (Dj_ [] [[112,108,97,99,101],(gt p.places ((place).toNat)).name,(Fq_ ((gt p.places ((place).toNat)).label)),itoB (A0_ x.D_),itoB ((gt p.places ((place).toNat)).bytes)]) λr=>
 lt (Hf_ r x) λr1=>
 lt (Gg_ r1 p x) λr2=>
 Gm_ p place x (16-0+1) 0 r2
def Nt_:Bool:=
 (Pz_)
theorem rp_new {p:C_} {k:Int} (hp:PoOk p) (hk:0<=k/\k<p.places.length) (hn:∀ y∈p.places,y.name.length<=300):RpOk p k (Af_ (Al_ p k)):=
 ⟨hp,hk,hn,(Mq_ hp hk).1,(newB p k).1,(newB p k).2.1,(newB p k).2.2⟩
theorem rp_one {p:C_} {k:Int} {r:E_} {x:U_} (h1:r=Al_ p k) (h2:x=Af_ r) (hp:PoOk p) (hk:0<=k/\k<p.places.length) (hn:∀ y∈p.places,y.name.length<=300):RpOk p k x:=by subst h2;subst h1;exact rp_new hp hk hn
def P0_:Bool:=
 lt (Al_ (⟨4,1,[(⟨[108,111,119],(⟨0,0⟩:Cq_),500,1⟩:A3_)],[0],[]⟩:C_) 0) λr=>
 lt (Af_ r) λr1=>
 lt (Fv_ (⟨4,1,[(⟨[108,111,119],(⟨0,0⟩:Cq_),500,1⟩:A3_)],[0],[]⟩:C_) 0 r1) λr2=>
 (bif ((Mh_)&&(Nt_)) then
 (decide (r2=[[112,108,97,99,101,32,108,111,119,32,48,32,48,32,53,48,48],[110,111,116,101,115,32,48]]))
 else false)
def Fg_ (yes:Bool):Int:=
 (bif yes then
 1
 else 0)
def Di_ (x:M_):Int:=
 (bif x.Ui_ then
 (bif x.again then
 (IntKind.wrap .u64 (1+2))
 else 1)
 else (bif x.again then
 (IntKind.wrap .u64 (0+2))
 else 0))
def Bu_:List D5_->Out->Bs
 |[],x=>x.s
 |x1::t,x=>Bu_ t (H_ (B_ (B_ x (x1.tick) 8) (x1.kind) 1) (x1.text))
def De_ (n:B7_):Bs:=
 Bu_ n.kept (B_ (B_ (⟨[],0⟩:Out) n.total 8) (n.kept.length:Int) 1)
def Cb_:List Mail->Out->Bs
 |[],x1=>x1.s
 |x2::t,x1=>Cb_ t (Aq_ x1 (Bp_ x2))
def By_ (x:Bc_):Bs:=
 Cb_ x.kept (B_ (B_ (⟨[],0⟩:Out) x.total 8) (x.kept.length:Int) 1)
def Gv_:List M_->Ae_->Ae_×Int
 |[],x=>(x,0)
 |x1::t,x=>lt (Ej_ x x1) λr=>
 (bif !decide (r.2=0) then
 ((⟨[]⟩:Ae_),r.2)
 else Gv_ t r.1)
def Nv_ (items:List M_):Ae_×Int:=
 Gv_ items (⟨[]⟩:Ae_)
theorem M6_ (i:In):MlOk (Ea_ i).1:=by
 unfold Ea_
 dsimp only
 split
 . split
   . rename_i h
     by_cases hc:Gt_ ⟨(Z_ i 8).1,(Y_ (Z_ i 8).2 16).1,(Y_ (Y_ (Z_ i 8).2 16).2 64).1,(Bw_ (Y_ (Y_ (Z_ i 8).2 16).2 64).2).1,(Y_ (Bw_ (Y_ (Y_ (Z_ i 8).2 16).2 64).2).2 256).1,(Z_ (Y_ (Bw_ (Y_ (Y_ (Z_ i 8).2 16).2 64).2).2 256).2 8).1,(Z_ (Z_ (Y_ (Bw_ (Y_ (Y_ (Z_ i 8).2 16).2 64).2).2 256).2 8).2 1).1⟩=0
     . exact mlOk_of hc (Bv_ _ _).1
     . exact (Kb_ hc h).elim
   . exact Hz_
 . exact Hz_
theorem mls_nil:∀ y∈([]:List M_),MlOk y.Ab_:=λ_ h=>by cases h
theorem mls_app {l:List M_} {x:M_} (h:∀ y∈l,MlOk y.Ab_) (hx:MlOk x.Ab_):∀ y∈l++[x],MlOk y.Ab_:=λy hy=>by
 rcases List.mem_append.1 hy with q|q
 . exact h y q
 . rw[List.mem_singleton.1 q];exact hx
theorem lof_ok0:∀ (t:List M_) (l:Ae_),LnOk l->(∀ y∈t,MlOk y.Ab_)->LnOk (Gv_ t l).1
 |[],_,h,_=>h
 |x::t,l,h,hx=>by
   unfold Gv_ lt
   refine bt (P:=λr:Ae_×Int=>LnOk r.1) (λ_=>M5_) λ_=>?_
   exact lof_ok0 t _ (lput_ok h (hx x (by simp)).2.1) λy hy=>hx y (by simp[hy])
theorem lof_ok {t:List M_} (h:∀ y∈t,MlOk y.Ab_):LnOk (Nv_ t).1:=lof_ok0 t _ M5_ h
theorem nb_len0:∀ (t:List D5_) (x:Out),(∀ y∈t,y.text.length<=64)->(Bu_ t x).length<=x.s.length+100*t.length
 |[],x,_=>by simp[Bu_]
 |y::t,x,h=>by
   have h1:=nb_len0 t (H_ (B_ (B_ x (y.tick) 8) (y.kind) 1) (y.text)) (λz hz=>h z (by simp[hz]))
   have h2:=At_ (B_ (B_ x (y.tick) 8) (y.kind) 1) y.text
   have h3:=R_ (B_ x (y.tick) 8) (y.kind) 1
   have h4:=R_ x (y.tick) 8
   have h5:=h y (by simp)
   rw[Bu_]
   simp only[List.length_cons]
   omega
theorem nb_len {n:B7_} (hn:n.kept.length<=32) (h:NoB n):(De_ n).length<=4000:=by
 have h1:=nb_len0 n.kept (B_ (B_ (⟨[],0⟩:Out) n.total 8) (n.kept.length:Int) 1) (λy hy=>(h y hy).1)
 have h2:=R_ (B_ (⟨[],0⟩:Out) n.total 8) (n.kept.length:Int) 1
 have h3:=R_ (⟨[],0⟩:Out) n.total 8
 have h4:(⟨[],0⟩:Out).s.length=0:=rfl
 unfold De_
 omega
theorem rb_len0:∀ (t:List Mail) (x:Out),(Cb_ t x).length<=x.s.length+3000*t.length
 |[],x=>by simp[Cb_]
 |y::t,x=>by
   have h1:=rb_len0 t (Aq_ x (Bp_ y))
   have h2:=Ek_ x (Bp_ y)
   have h3:=F8_ y
   rw[Cb_]
   simp only[List.length_cons]
   omega
theorem rb_len {x:Bc_} (h:RiOk x):(By_ x).length<=50000:=by
 have h1:=rb_len0 x.kept (B_ (B_ (⟨[],0⟩:Out) x.total 8) (x.kept.length:Int) 1)
 have h2:=R_ (B_ (⟨[],0⟩:Out) x.total 8) (x.kept.length:Int) 1
 have h3:=R_ (⟨[],0⟩:Out) x.total 8
 have h4:(⟨[],0⟩:Out).s.length=0:=rfl
 have h5:=h.1
 unfold By_
 omega
theorem mks_app {l:List Mail} {x:Mail} (h:∀ y∈l,MlOk y) (hx:MlOk x):∀ y∈l++[x],MlOk y:=λy hy=>by
 rcases List.mem_append.1 hy with q|q
 . exact h y q
 . rw[List.mem_singleton.1 q];exact hx
theorem mks_nil:∀ y∈([]:List Mail),MlOk y:=λ_ h=>by cases h
def ImOk (x:U_):Prop:=BkOk x.book/\BkB x.book/\StkOk x.D_/\RoB x.D_/\x.notes.kept.length<=32/\NoB x.notes
def DdG (d:L_):Prop:=DdOk d/\0<=d.code/\d.code<=255/\0<=d.Ab_.hops/\0<=d.Bb_.sort/\∀ p∈d.bind.want,p.wf
def DdsG (i:In) (l:List L_):Prop:=i.err=0->∀ d∈l,DdG d
theorem ddq (q:Q_):DdG (⟨2,0,(⟨[],0,[]⟩:W_),q,(⟨[],[],false,[],[],false⟩:P_),[],0,0,0,0,0,(⟨0,[],[],[],[],0,0⟩:Mail),[]⟩:L_):=
 ⟨⟨by simp,by simp,by simp,by simp⟩,by simp,by simp,by simp,by simp,λ_ h=>by cases h⟩
theorem dds_nil (i:In):DdsG i []:=λ_ _ h=>by cases h
theorem dds_app {i j:In} {l:List L_} {d:L_} (h:DdsG i l) (he:j.err=0->i.err=0/\DdG d):DdsG j (l++[d]):=λe y hy=>by
 obtain⟨e1,e2⟩:=he e
 rcases List.mem_append.1 hy with q|q
 . exact h e1 y q
 . rw[List.mem_singleton.1 q];exact e2
theorem dds_shop {i:In} {r1 r2 r3:_} {l:List L_} (h:DdsG i l) (h1:Y_ i 16=r1) (h2:Z_ r1.2 1=r2) (h3:Y_ r2.2 16=r3):DdsG r3.2 (l++[(⟨0,0,(⟨r1.1,r2.1,r3.1⟩:W_),(⟨[],0,0,[]⟩:Q_),(⟨[],[],false,[],[],false⟩:P_),[],0,0,0,0,0,(⟨0,[],[],[],[],0,0⟩:Mail),[]⟩:L_)]):=by
 refine dds_app h λe=>?_
 subst h3
 have e2:=(Mg_ e).1
 subst h2
 have e1:=(M0_ e2).1
 subst h1
 exact⟨(Mg_ e1).1,⟨by simp,by simp,by simp,by simp⟩,by simp,by simp,by simp,(Bv_ _ _).1,λ_ h=>by cases h⟩
theorem dds_bind {i:In} {r5 r6 r7 r8 r9 r10:_} {l:List L_} (h:DdsG i l) (h5:Y_ i 16=r5) (h6:Y_ r5.2 16=r6) (h7:Z_ r6.2 1=r7) (h8:Y_ r7.2 64=r8) (h9:Bw_ r8.2=r9) (h10:Z_ r9.2 1=r10):DdsG r10.2 (l++[(⟨4,0,(⟨[],0,[]⟩:W_),(⟨[],0,0,[]⟩:Q_),(⟨r5.1,r6.1,decide (r7.1=1),r8.1,r9.1,decide (r10.1=1)⟩:P_),[],0,0,0,0,0,(⟨0,[],[],[],[],0,0⟩:Mail),[]⟩:L_)]):=by
 refine dds_app h λe=>?_
 subst h10
 have e9:=(M0_ e).1
 subst h9
 obtain⟨e8,_,hd⟩:=Wn_ e9
 subst h8
 have k8:=Mg_ e8
 subst h7
 have e6:=(M0_ k8.1).1
 subst h6
 have e5:=(Mg_ e6).1
 subst h5
 refine⟨(Mg_ e5).1,⟨?_,?_,by simp,by simp⟩,by simp,by simp,by simp,by simp,headRead_pw _⟩
 . have :=k8.2.2;show (Y_ _ 64).1.length<=1000;omega
 . have :=(Lp_ hd).1;show (Bw_ _).1.length<=1000;omega
def A7_:List M_->Out->Out
 |[],x2=>x2
 |x3::t,x2=>A7_ t (Aq_ (B_ x2 (Di_ x3) 1) (Bp_ (x3.Ab_)))
def Cw_ (s:F_) (x:Out):Nat->Int->Nat->Out->Bs
 |0,_,_,_=>default
 | f2+1,many,v,x4=>(bif decide ((v:Int)<16) then
 lt (Dr_ (A16.get s.rises v)) λr1=>
 (bif decide (0<r1) then
 Cw_ s x f2 (IntKind.wrap .u64 (many+1)) (v+1) (Aq_ (B_ x4 (v:Int) 1) (By_ (A16.get s.rises v)))
 else Cw_ s x f2 many (v+1) x4)
 else ((Aq_ (B_ x many 1) x4.s).s))
def Bg_ (s:F_):List Gi_->Out->Bs
 |[],x=>Cw_ s x (16-0+1) 0 0 (⟨[],0⟩:Out)
 | x5::t1,x=>(lt1 (lt (Et_ (x5.l)) λr=>
 A7_ r (B_ (H_ (B_ (B_ (H_ x (x5.q.name)) (x5.q.most) 8) (x5.q.life) 8) (x5.q.dead)) (IntKind.wrap .u64 (A8_ (x5.l))) 1)) (λx1=>
 Bg_ s t1 x1))
def S_ (s:F_):Bs:=
 Bg_ s s.rows (B_ (B_ (⟨[],0⟩:Out) s.next 8) (s.rows.length:Int) 1)
theorem kb_len1:∀ (t:List M_) (x:Out),(A7_ t x).s.length<=x.s.length+3100*t.length
 |[],x=>by simp[A7_]
 |y::t,x=>by
   have h1:=kb_len1 t (Aq_ (B_ x (Di_ y) 1) (Bp_ (y.Ab_)))
   have h2:=Ek_ (B_ x (Di_ y) 1) (Bp_ (y.Ab_))
   have h3:=F8_ y.Ab_
   have h4:=R_ x (Di_ y) 1
   rw[A7_]
   simp only[List.length_cons]
   omega
theorem kb_len2 {s:F_} (hs:StkOk s) (x:Out):∀ (f:Nat) (many:Int) (v:Nat) (x4:Out),(Cw_ s x f many v x4).length<=x.s.length+8+x4.s.length+60000*(16-v)
 |0,_,_,_=>Nat.zero_le _
 |f+1,many,v,x4=>by
   rw[Cw_]
   refine bt (P:=λr:Bs=>r.length<=_) (λe=>?_) λe=>?_
   . simp only[decide_eq_true_eq] at e
     unfold lt
     refine bt (P:=λr:Bs=>r.length<=_) (λ_=>?_) λ_=>?_
     . have h1:=kb_len2 hs x f (IntKind.wrap .u64 (many+1)) (v+1) (Aq_ (B_ x4 (v:Int) 1) (By_ (A16.get s.rises v)))
       have h2:=Ek_ (B_ x4 (v:Int) 1) (By_ (A16.get s.rises v))
       have h3:=R_ x4 (v:Int) 1
       have h4:=rb_len (hs.2.1 v (by omega))
       have h5:(By_ (A16.get s.rises v)).length<=50000:=h4
       omega
     . have h1:=kb_len2 hs x f many (v+1) x4
       omega
   . have h2:=Ek_ (B_ x many 1) x4.s
     have h3:=R_ x many 1
     omega
theorem kb_len0 {s:F_} (hs:StkOk s):∀ (t:List Gi_) (x:Out),(∀ r∈t,LnOk r.l/\Bj_ r.q=0)->(Bg_ s t x).length<=x.s.length+200000*(t.length+5)
 |[],x,_=>by
   have h1:=kb_len2 hs x (16-0+1) 0 0 (⟨[],0⟩:Out)
   have h4:(⟨[],0⟩:Out).s.length=0:=rfl
   rw[Bg_]
   simp only[List.length_nil]
   omega
 |r::t,x,h=>by
   rw[Bg_]
   obtain⟨hl,hq⟩:=h r (by simp)
   obtain⟨q1,q2,_,_⟩:=Qd_ hq
   show (Bg_ s t (A7_ (Et_ r.l) (B_ (H_ (B_ (B_ (H_ x (r.q.name)) (r.q.most) 8) (r.q.life) 8) (r.q.dead)) (IntKind.wrap .u64 (A8_ (r.l))) 1))).length<=_
   have h7:=At_ x (r.q.name)
   generalize H_ x (r.q.name)=o1 at h7 ⊢
   have h6:=R_ o1 (r.q.most) 8
   generalize B_ o1 (r.q.most) 8=o2 at h6 ⊢
   have h5:=R_ o2 (r.q.life) 8
   generalize B_ o2 (r.q.life) 8=o3 at h5 ⊢
   have h4:=At_ o3 (r.q.dead)
   generalize H_ o3 (r.q.dead)=o4 at h4 ⊢
   have h3:=R_ o4 (IntKind.wrap .u64 (A8_ (r.l))) 1
   generalize B_ o4 (IntKind.wrap .u64 (A8_ (r.l))) 1=o5 at h3 ⊢
   have h8:=all_len hl
   have h2:=kb_len1 (Et_ r.l) o5
   generalize A7_ (Et_ r.l) o5=o6 at h2 ⊢
   have h1:=kb_len0 hs t o6 (λz hz=>h z (by simp[hz]))
   refine Nat.le_trans h1 ?_
   clear h1
   generalize (Et_ r.l).length=n at h2 h8
   simp only[List.length_cons]
   omega
theorem kb_len {s:F_} (hs:StkOk s) (hq:RoB s):(S_ s).length<=3000000:=by
 unfold S_
 have h3:=R_ (⟨[],0⟩:Out) s.next 8
 have h4:(⟨[],0⟩:Out).s.length=0:=rfl
 generalize B_ (⟨[],0⟩:Out) s.next 8=o1 at h3 ⊢
 have h2:=R_ o1 (s.rows.length:Int) 1
 generalize B_ o1 (s.rows.length:Int) 1=o2 at h2 ⊢
 have h1:=kb_len0 hs s.rows o2 (λr hr=>⟨hs.1.2.1 r hr,hq r hr⟩)
 have h5:=hs.1.1
 refine Nat.le_trans h1 ?_
 clear h1
 omega
theorem Ck_ {z:Int} (h0:0<=z) (h1:z<=18446744073709551615):IntKind.wrap .u64 z=z:=Ob_ ⟨h0,h1⟩
def G8_ (r1:Int×In):Nat->Int->Int->List Mail->In->Bc_×In
 |0,_,_,_,_=>default
 | f2+1,k,total,kept,x1=>(bif ((decide (k<r1.1))&&(decide (x1.err=0))) then
 lt (Ea_ x1) λr2=>
 G8_ r1 f2 (IntKind.wrap .u64 (k+1)) total (kept++[r2.1]) r2.2
 else (bif !decide (x1.err=0) then
 ((⟨0,[]⟩:Bc_),x1)
 else ((⟨total,kept⟩:Bc_),x1)))
def I0_ (i:In):Bc_×In:=
 lt (Z_ i 8) λr=>
 lt (Z_ r.2 1) λr1=>
 (lt1 ((bif !decide (r1.2.err=0) then
 r1.2
 else (bif decide (16<r1.1) then
 (Bo_ r1.2 6)
 else (bif !decide (r1.1=(min r.1 16)) then
 (Bo_ r1.2 7)
 else r1.2)))) (λx=>
 G8_ r1 ((r1.1-0).toNat+1) 0 r.1 [] x))
def Ev_ (r1:Int×In):Nat->Int->Int->List D5_->In->B7_×In
 |0,_,_,_,_=>default
 | f2+1,k,total,kept,x1=>(bif ((decide (k<r1.1))&&(decide (x1.err=0))) then
 lt (Z_ x1 8) λr2=>
 lt (Z_ r2.2 1) λr3=>
 lt (Y_ r3.2 64) λr4=>
 Ev_ r1 f2 (IntKind.wrap .u64 (k+1)) total (kept++[(⟨r2.1,r3.1,r4.1⟩:D5_)]) r4.2
 else (bif !decide (x1.err=0) then
 ((⟨0,[]⟩:B7_),x1)
 else ((⟨total,kept⟩:B7_),x1)))
def Dy_ (i:In):B7_×In:=
 lt (Z_ i 8) λr=>
 lt (Z_ r.2 1) λr1=>
 (lt1 ((bif !decide (r1.2.err=0) then
 r1.2
 else (bif decide (32<r1.1) then
 (Bo_ r1.2 6)
 else (bif !decide (r1.1=(min r.1 32)) then
 (Bo_ r1.2 7)
 else r1.2)))) (λx=>
 Ev_ r1 ((r1.1-0).toNat+1) 0 r.1 [] x))
theorem Zs_ (r1:Int×In):∀ (f:Nat) (k total:Int) (kept:List Mail) (x:In),(∀ m∈kept,MlOk m)->(kept.length:Int)=k->k<=16->(x.err=0->r1.1<=16)->RiOk (G8_ r1 f k total kept x).1
 |0,_,_,_,_,_,_,_,_=>⟨Nat.zero_le _,λ_ h=>by cases h⟩
 |f+1,k,total,kept,x,h,hk,h16,he=>by
   rw[G8_]
   refine bt (P:=λr:Bc_×In=>RiOk r.1) (λe=>?_) λe=>?_
   . simp only[Bool.and_eq_true,decide_eq_true_eq] at e
     have h1:=he e.2
     refine Zs_ r1 f _ _ _ _ (mks_app h (M6_ x)) ?_ ?_ (λ_=>h1)
     . rw[Ck_ (by omega) (by omega)]
       simp only[List.length_append,List.length_cons,List.length_nil]
       omega
     . rw[Ck_ (by omega) (by omega)];omega
   . refine bt (P:=λr:Bc_×In=>RiOk r.1) (λ_=>Sb_) λ_=>?_
     exact⟨by show kept.length<=16;omega,λm hm=>(h m hm).1⟩
theorem Ru_ {i:In} {c:Int} (h:(Bo_ i c).err=0):i.err=0/\c=0:=by
 by_cases hc:c=0
 . subst hc;rw[Rt_] at h;exact⟨h,rfl⟩
 . exact (Kb_ hc h).elim
theorem rread_ok (i:In):RiOk (I0_ i).1:=by
 unfold I0_ lt lt1
 refine Zs_ _ _ _ _ _ _ mks_nil rfl (by decide) λe=>?_
 revert e
 refine bt (P:=λj:In=>j.err=0->_) (λe1 e2=>?_) λe1=>bt (P:=λj:In=>j.err=0->_) (λe2 e3=>(Kb_ (by decide) e3).elim) λe2 _=>?_
 . simp only[Bool.not_eq_true',decide_eq_false_iff_not] at e1
   exact (e1 e2).elim
 . simp only[decide_eq_false_iff_not] at e2
   omega
theorem Ze_ (r1:Int×In):∀ (f:Nat) (k total:Int) (kept:List D5_) (x:In),(x.err=0->NoB ⟨0,kept⟩)->(kept.length:Int)=k->k<=32->(x.err=0->r1.1<=32)->(Ev_ r1 f k total kept x).1.kept.length<=32/\NoB (Ev_ r1 f k total kept x).1
 |0,_,_,_,_,_,_,_,_=>⟨Nat.zero_le _,λ_ h=>by cases h⟩
 |f+1,k,total,kept,x,h,hk,h16,he=>by
   rw[Ev_]
   refine bt (P:=λr:B7_×In=>r.1.kept.length<=32/\NoB r.1) (λe=>?_) λe=>?_
   . simp only[Bool.and_eq_true,decide_eq_true_eq] at e
     have h1:=he e.2
     unfold lt
     refine Ze_ r1 f _ _ _ _ (λe4=>?_) ?_ ?_ (λ_=>h1)
     . intro y hy
       rcases List.mem_append.1 hy with q|q
       . exact h e.2 y q
       . rw[List.mem_singleton.1 q]
         have k1:=(Mg_ e4).2.2
         have k2:=Bv_ (Z_ x 8).2 1
         refine⟨?_,k2.1,k2.2.2.2 (by decide)⟩
         show (Y_ _ 64).1.length<=64
         omega
     . rw[Ck_ (by omega) (by omega)]
       simp only[List.length_append,List.length_cons,List.length_nil]
       omega
     . rw[Ck_ (by omega) (by omega)];omega
   . refine bt (P:=λr:B7_×In=>r.1.kept.length<=32/\NoB r.1) (λ_=>⟨Nat.zero_le _,λ_ h=>by cases h⟩) λe1=>?_
     simp only[Bool.not_eq_false',decide_eq_true_eq] at e1
     exact⟨by show kept.length<=32;omega,h e1⟩
theorem nread_ok (i:In):(Dy_ i).1.kept.length<=32/\NoB (Dy_ i).1:=by
 unfold Dy_ lt lt1
 refine Ze_ _ _ _ _ _ _ (λ_ _ h=>by cases h) rfl (by decide) λe=>?_
 revert e
 refine bt (P:=λj:In=>j.err=0->_) (λe1 e2=>?_) λe1=>bt (P:=λj:In=>j.err=0->_) (λe2 e3=>(Kb_ (by decide) e3).elim) λe2 _=>?_
 . simp only[Bool.not_eq_true',decide_eq_false_iff_not] at e1
   exact (e1 e2).elim
 . simp only[decide_eq_false_iff_not] at e2
   omega
theorem nread_e0 (r1:Int×In):∀ (f:Nat) (k total:Int) (kept:List D5_) (x:In),k<r1.1+1->(r1.1-k).toNat<f->0<=k->r1.1<=255->(Ev_ r1 f k total kept x).2.err=0->x.err=0
 |0,_,_,_,_,_,hf,_,_,_=>by omega
 |f+1,k,total,kept,x,hk,hf,h0,h5,h=>by
   rw[Ev_] at h
   revert h
   refine bt (P:=λr:B7_×In=>r.2.err=0->x.err=0) (λe h=>?_) λe=>?_
   . simp only[Bool.and_eq_true,decide_eq_true_eq] at e
     exact e.2
   . exact bt (P:=λr:B7_×In=>r.2.err=0->x.err=0) (λ_ h=>h) λ_ h=>h
def NtF (n:B7_):Prop:=(0<=n.total/\n.total<=18446744073709551615)/\(n.kept.length:Int)=min n.total 32/\∀ x∈n.kept,(0<=x.tick/\x.tick<=18446744073709551615)/\(0<=x.kind/\x.kind<=255)/\x.text.length<=64
theorem Vc_ (r1:Int×In) (r:Bs) (h32:r1.1<=32):∀ (t:List D5_) (f:Nat) (k total:Int) (kept:List D5_),k+t.length=r1.1->0<=k->t.length<f->(∀ x∈t,(0<=x.tick/\x.tick<=18446744073709551615)/\(0<=x.kind/\x.kind<=255)/\x.text.length<=64)->Ev_ r1 f k total kept ⟨t.flatMap P9_++r,0⟩=(⟨total,kept++t⟩,⟨r,0⟩)
 |_,0,_,_,_,_,_,h,_=>by omega
 |[],f+1,k,total,kept,hk,h0,hf,_=>by
   rw[Ev_]
   simp only[List.length_nil] at hk
   have e:decide (k<r1.1)=false:=decide_eq_false (by omega)
   rw[e]
   simp
 |x::t,f+1,k,total,kept,hk,h0,hf,hx=>by
   obtain⟨h1,h2,h3⟩:=hx x (by simp)
   simp only[List.length_cons] at hk hf
   rw[Ev_]
   have e:decide (k<r1.1)=true:=decide_eq_true (by omega)
   have e1:Z_ ⟨(x::t).flatMap P9_++r,0⟩ 8=(x.tick,⟨numB 1 x.kind.toNat++(txtB x.text++(t.flatMap P9_++r)),0⟩):=by
     rw[List.flatMap_cons,P9_]
     simp only[List.append_assoc]
     exact H2_ h1.1 (by omega)
   have e2:Z_ ⟨numB 1 x.kind.toNat++(txtB x.text++(t.flatMap P9_++r)),0⟩ 1=(x.kind,⟨txtB x.text++(t.flatMap P9_++r),0⟩):=K3_ h2.1 (by omega)
   have e3:Y_ ⟨txtB x.text++(t.flatMap P9_++r),0⟩ 64=(x.text,⟨t.flatMap P9_++r,0⟩):=Of_ (by omega) (by omega)
   rw[e]
   simp only[decide_true,Bool.and_true,cond_true]
   rw[lt,e1,lt,e2,lt,e3]
   rw[Vc_ r1 r h32 t f _ total (kept++[(⟨x.tick,x.kind,x.text⟩:D5_)]) (by rw[Ck_ (by omega) (by omega)];omega) (by rw[Ck_ (by omega) (by omega)];omega) (by omega) (λy hy=>hx y (by simp[hy]))]
   simp
theorem nread_fwd {n:B7_} (h:NtF n) (r:Bs):Dy_ ⟨Lw_ n++r,0⟩=(n,⟨r,0⟩):=by
 obtain⟨h1,h2,h3⟩:=h
 unfold Dy_
 have e1:Z_ ⟨Lw_ n++r,0⟩ 8=(n.total,⟨numB 1 n.kept.length++(n.kept.flatMap P9_++r),0⟩):=by
   rw[Lw_]
   simp only[List.append_assoc]
   exact H2_ h1.1 (by omega)
 have e2:Z_ ⟨numB 1 n.kept.length++(n.kept.flatMap P9_++r),0⟩ 1=((n.kept.length:Int),⟨n.kept.flatMap P9_++r,0⟩):=Iv_ (by omega)
 rw[lt,e1,lt,e2,lt1]
 dsimp only
 have d1:decide ((32:Int)<(n.kept.length:Int))=false:=decide_eq_false (by omega)
 have d2:decide ((n.kept.length:Int)=min n.total 32)=true:=decide_eq_true h2
 rw[d1,d2]
 simp only[decide_true,Bool.not_true,cond_false]
 rw[Vc_ _ r (by omega) n.kept _ 0 n.total [] (by omega) (by omega) (by omega) h3]
 simp
def MlF (m:Mail):Prop:=m.wf/\(∀ p∈m.head,p.wf)/\Gt_ m=0
def RiF (x:Bc_):Prop:=(0<=x.total/\x.total<=18446744073709551615)/\(x.kept.length:Int)=min x.total 16/\∀ m∈x.kept,MlF m
theorem rb_eq0:∀ (t:List Mail) (o:Out),Cb_ t o=o.s++t.flatMap Bp_
 |[],o=>by simp[Cb_]
 |y::t,o=>by
   rw[Cb_,rb_eq0 t]
   simp[Aq_]
theorem rb_eq (x:Bc_):By_ x=numB 8 x.total.toNat++(numB 1 x.kept.length++x.kept.flatMap Bp_):=by
 unfold By_
 rw[rb_eq0,Gu_,Ko_]
 simp
theorem mail_fwd {m:Mail} {r:Bs} (h:MlF m):Ea_ ⟨Bp_ m++r,0⟩=(m,⟨r,0⟩):=by
 rw[show Bp_ m=Y8_ m from To_ h.2.2 (λp hp=>(h.2.1 p hp).1.1)]
 exact Y9_ h.1 h.2.1 h.2.2
theorem Vj_ (r1:Int×In) (r:Bs) (h32:r1.1<=16):∀ (t:List Mail) (f:Nat) (k total:Int) (kept:List Mail),k+t.length=r1.1->0<=k->t.length<f->(∀ m∈t,MlF m)->G8_ r1 f k total kept ⟨t.flatMap Bp_++r,0⟩=(⟨total,kept++t⟩,⟨r,0⟩)
 |_,0,_,_,_,_,_,h,_=>by omega
 |[],f+1,k,total,kept,hk,h0,hf,_=>by
   rw[G8_]
   simp only[List.length_nil] at hk
   have e:decide (k<r1.1)=false:=decide_eq_false (by omega)
   rw[e]
   simp
 |x::t,f+1,k,total,kept,hk,h0,hf,hx=>by
   simp only[List.length_cons] at hk hf
   rw[G8_]
   have e:decide (k<r1.1)=true:=decide_eq_true (by omega)
   have e1:Ea_ ⟨(x::t).flatMap Bp_++r,0⟩=(x,⟨t.flatMap Bp_++r,0⟩):=by
     rw[List.flatMap_cons,List.append_assoc]
     exact mail_fwd (hx x (by simp))
   rw[e]
   simp only[decide_true,Bool.and_true,cond_true]
   rw[lt,e1]
   rw[Vj_ r1 r h32 t f _ total (kept++[x]) (by rw[Ck_ (by omega) (by omega)];omega) (by rw[Ck_ (by omega) (by omega)];omega) (by omega) (λy hy=>hx y (by simp[hy]))]
   simp
theorem rread_fwd {x:Bc_} (h:RiF x) (r:Bs):I0_ ⟨By_ x++r,0⟩=(x,⟨r,0⟩):=by
 obtain⟨h1,h2,h3⟩:=h
 unfold I0_
 have e1:Z_ ⟨By_ x++r,0⟩ 8=(x.total,⟨numB 1 x.kept.length++(x.kept.flatMap Bp_++r),0⟩):=by
   rw[rb_eq]
   simp only[List.append_assoc]
   exact H2_ h1.1 (by omega)
 have e2:Z_ ⟨numB 1 x.kept.length++(x.kept.flatMap Bp_++r),0⟩ 1=((x.kept.length:Int),⟨x.kept.flatMap Bp_++r,0⟩):=Iv_ (by omega)
 rw[lt,e1,lt,e2,lt1]
 dsimp only
 have d1:decide ((16:Int)<(x.kept.length:Int))=false:=decide_eq_false (by omega)
 have d2:decide ((x.kept.length:Int)=min x.total 16)=true:=decide_eq_true h2
 rw[d1,d2]
 simp only[decide_true,Bool.not_true,cond_false]
 rw[Vj_ _ r (by omega) x.kept _ 0 x.total [] (by omega) (by omega) (by omega) h3]
 simp
def U64 (t:Int):Prop:=0<=t/\t<=18446744073709551615
structure Clw (T:Int->Prop) (W:Mail->Prop) (K:F_->Prop) (M:B7_->Prop):Prop where
 kp:∀ {k n m},StkOk k->W m->K k->K (Ay_ k n m).1/\W (Ay_ k n m).2.2.1
 kl:∀ {k n},K k->K (B5_ k n).1
 kr:∀ {k n i},K k->K (Ai_ k n i).1/\W (Ai_ k n i).2.1.Ab_
 kb:∀ {k n i},K k->K (Co_ k n i).1
 ks:∀ {k p m},W m->K k->K (Bl_ k p m).1
 kw:∀ {k},StkOk k->K k->K (Ew_ k)
 kt:∀ {k t},K k->W (Az_ k t).2.1
 na:∀ {n x},T x.tick->0<=x.kind/\x.kind<=255->M n->M (C4_ n x).1
 wd:∀ {m t l},W m->W ⟨0,m.Bb_,m.key,m.head,m.body,Js_ m.due t l,m.hops⟩
 wr:∀ {m},W m->W ⟨0,m.Bb_,m.key,m.head,m.body,m.due,m.hops⟩
 wb:∀ {m s},W m->W ⟨m.id,s,m.key,m.head,m.body,0,IntKind.wrap .u8 (m.hops+1)⟩
 wp:∀ {m},W m->W ⟨m.id,m.Bb_,m.key,m.head,m.body,m.due,IntKind.wrap .u8 (m.hops+1)⟩
def Sp (a:A8_SpentR):Prop:=∀ i,i<8->U64 (A8.get a i).round
theorem round_u {p:C_} {t:Int} (h:U64 t):U64 (Lm_ p t):=by
 unfold Lm_
 obtain⟨h1,h2⟩:=h
 have h3:0<=t/(p.slots.length:Int):=Int.ediv_nonneg h1 (by omega)
 have h4:t/(p.slots.length:Int)<=t:=Int.ediv_le_self _ h1
 exact⟨h3,by omega⟩
theorem Sp.all {a:A8_SpentR} (h:Sp a) (k:Nat):U64 (A8.get a k).round:=by
 by_cases q:k<8
 . exact h k q
 . obtain⟨n,rfl⟩:∃ n,k=n+8:=⟨_,(Nat.sub_add_cancel (by omega)).symm⟩
   exact h 7 (by decide)
theorem Sp.set {a:A8_SpentR} (h:Sp a) {x:Av_} (hx:U64 x.round) (k:Nat):Sp (A8.set a x k):=by
 have key:∀ k,k<8->Sp (A8.set a x k):=λk hk i hi=>by
   rw[A8.get_set _ _ _ _ hk hi]
   by_cases q:i=k
   . rw[if_pos q];exact hx
   . rw[if_neg q];exact h i hi
 by_cases q:k<8
 . exact key k q
 . obtain⟨n,rfl⟩:∃ n,k=n+8:=⟨_,(Nat.sub_add_cancel (by omega)).symm⟩
   exact key 7 (by decide)
def Zu_ (s:E_) (d:L_):E_:=⟨⟨s.x.book,s.x.D_,s.x.notes,A16.set s.x.seen d.number d.frm.toNat,s.x.spent⟩,s.K_,s.place⟩
structure Kw (T:Int->Prop) (K:F_->Prop) (M:B7_->Prop) (s0 s:E_):Prop where
 po:s.K_=s0.K_
 pl:s.place=s0.place
 bo:s.x.book=s0.x.book
 k:K s.x.D_
 n:M s.x.notes
 se:s.x.seen=s0.x.seen
 sp:(∀ t,T t->U64 t)->Sp s0.x.spent->Sp s.x.spent
section
variable {T:Int->Prop} {W:Mail->Prop} {K:F_->Prop} {M:B7_->Prop} (C:Clw T W K M) {s0 s:E_}
include C
omit C in
theorem Kw.D_ (h:Kw T K M s0 s) {k:F_} (hk:K k):Kw T K M s0 ⟨⟨s.x.book,k,s.x.notes,s.x.seen,s.x.spent⟩,s.K_,s.place⟩:=⟨h.po,h.pl,h.bo,hk,h.n,h.se,h.sp⟩
theorem Kw.note (h:Kw T K M s0 s) {t k:Int} {x:Bs} (ht:T t) (hk:0<=k/\k<=255):Kw T K M s0 (C2_ s t k x):=⟨h.po,h.pl,h.bo,h.k,C.na ht hk h.n,h.se,h.sp⟩
theorem Kw.spend (h:Kw T K M s0 s) {to' t:Int} (ht:T t):Kw T K M s0 (D1_ s to' t).1:=by
 unfold D1_ lt
 let Q:E_×Int->Prop:=λr=>Kw T K M s0 r.1
 refine bt (P:=Q) (λ_=>h) λ_=>?_
 refine lt1E (P:=Q) (λx:Av_=>(∀ t,T t->U64 t)->Sp s.x.spent->U64 x.round) ?_ λx hx=>bt (P:=Q) (λ_=>h) λ_=>⟨h.po,h.pl,h.bo,h.k,C.na ht ⟨(by decide :(0:Int)<=2),(by decide :(2:Int)<=255)⟩ h.n,h.se,λu q=>Sp.set (h.sp u q) (x:=⟨x.round,x.count+1⟩) (hx u (h.sp u q)) _⟩
 exact bt (P:=λx:Av_=>(∀ t,T t->U64 t)->Sp s.x.spent->U64 x.round) (λ_ u _=>round_u (u _ ht)) λ_ _ q=>q.all _
def GnW (T:Int->Prop) (W:Mail->Prop) (K:F_->Prop) (M:B7_->Prop) (s0:E_) (r:E_×List Hp_×Int×Int):Prop:=Kw T K M s0 r.1/\∀ g∈r.2.1,W g.Ab_
section
variable {m:Mail} {tick:Int} {r:List Bs×List Bs×Int}
theorem send1_w {gone:List Hp_} (ht:T tick) (hm:W m) (hs:Kw T K M s0 s) (hg:∀ g∈gone,W g.Ab_):∀ (t:List Bs) (n:Int) (x:E_),Kw T K M s0 x->GnW T W K M s0 (B2_ s m tick r gone t n x)
 |[],n,x,hx=>⟨hx,hg⟩
 |q::t,n,x,hx=>by
   unfold B2_ lt
   have h0:∀ e,GnW T W K M s0 (s,[],0,e):=λe=>⟨hs,(λ_ h=>by cases h)⟩
   refine lp1E (P:=GnW T W K M s0) (Kw T K M s0) ?_ λy hy=>?_
   . refine bt (P:=LoP _ _) (λ_=>?_) λ_=>hx
     exact bt (P:=LoP _ _) (λ_=>h0 _) λ_=>Kw.spend C hx ht
   . exact bt (P:=GnW T W K M s0) (λ_=>h0 _) λ_=>send1_w ht hm hs hg t _ _ (hy.D_ (C.ks (C.wr hm) hy.k))
theorem Xg_ (ht:T tick) (hm:W m) (hs:Kw T K M s0 s) (h0:0<=m.hops):∀ (t:List Bs) (gone:List Hp_) (n:Int) (x:E_),(∀ g∈gone,W g.Ab_)->StOk x->Kw T K M s0 x->GnW T W K M s0 (Au_ s m tick r t gone n x)
 |[],gone,n,x,hg,_,hx=>by
   unfold Au_
   exact send1_w C ht hm hs hg _ _ _ hx
 |q::t,gone,n,x,hg,ho,hx=>by
   unfold Au_ lt
   refine bt (P:=GnW T W K M s0) (λ_=>Xg_ ht hm hs h0 t _ _ x hg ho hx) λ_=>?_
   have hw:=C.wd (t:=tick) (l:=(Ah_ x.x.D_ q).1.life) hm
   generalize Js_ m.due tick (Ah_ x.x.D_ q).1.life=due at hw ⊢
   have hp:=(Wv_ (s:=x.x.D_) (n:=q) (m:=⟨0,m.Bb_,m.key,m.head,m.body,due,m.hops⟩) ho.stk h0).1
   have hk:=C.kp (n:=q) (m:=⟨0,m.Bb_,m.key,m.head,m.body,due,m.hops⟩) ho.stk hw hx.k
   refine bt (P:=GnW T W K M s0) (λ_=>⟨hs,(λ_ h=>by cases h)⟩) λ_=>?_
   refine bt (P:=GnW T W K M s0) (λ_=>Xg_ ht hm hs h0 t _ _ _ (λg q=>?_) (Cz_ ho hp) (hx.D_ hk.1)) λ_=>Xg_ ht hm hs h0 t _ _ _ hg (Cz_ ho hp) (hx.D_ hk.1)
   rcases List.mem_append.1 q with q|q
   . exact hg g q
   . rw[List.mem_singleton.1 q];exact hk.2
theorem send_w (ht:T tick) (ho:StOk s) (hs:Kw T K M s0 s) (hm:W m) (h0:0<=m.hops):GnW T W K M s0 (Ag_ s m tick):=by
 unfold Ag_ lt
 exact bt (P:=GnW T W K M s0) (λ_=>⟨hs,(λ_ h=>by cases h)⟩) λ_=>Xg_ C ht hm hs h0 _ _ _ _ (λ_ h=>by cases h) ho hs
end
theorem Vw_ {tick:Int} (ht:T tick):∀ (f:Nat) (gone:List Hp_) (lost:Int) (x:E_),Sf_ gone lost x->wtk x.x.D_+wto gone<f->(∀ g∈gone,W g.Ab_)->Kw T K M s0 x->Kw T K M s0 (Da_ tick f gone lost x).1
 |0,_,_,_,_,h,_,_=>by omega
 |f+1,gone,lost,x,hI,hf,hg,hx=>by
   unfold Da_ lt
   let Q:E_×Int->Prop:=λr=>Kw T K M s0 r.1
   refine bt (P:=Q) (λe=>?_) λ_=>hx
   have hn:0<gone.length:=by simpa using e
   have hd:∀ g∈gone.drop 1,W g.Ab_:=λg q=>hg g (List.mem_of_mem_drop q)
   refine bt (P:=Q) (λ_=>Vw_ ht f _ _ _ (Si_ hI hn) (Us_ hn hf) hd hx) λ_=>?_
   have hm:MlOk (gt gone 0).Ab_:=hI.2.1 _ (Ib_ hn)
   refine bt (P:=Q) (λ_=>?_) λe4=>?_
   . have h:=Kn_ (s:=x) (t:=tick) (k:=1) (x:=(gt gone 0).queue) hI.1
     exact Vw_ ht f _ _ _ (Sj_ hI h.1 h.2 hn) (Xq_ h.2 hn hf) hd (Kw.note C hx ht (by decide))
   . simp only[Bool.or_eq_false_iff,decide_eq_false_iff_not,Bool.not_eq_false',decide_eq_true_eq] at e4
     have hs:=Nc_ (s:=x) (m:=⟨(J_ (gt gone 0).Ab_).id,(Ah_ x.x.D_ (gt gone 0).queue).1.dead,(J_ (gt gone 0).Ab_).key,(J_ (gt gone 0).Ab_).head,(J_ (gt gone 0).Ab_).body,0,IntKind.wrap .u8 ((J_ (gt gone 0).Ab_).hops+1)⟩) (tick:=tick) hI.1 (Nf_ _)
     have hw:=send_w C (tick:=tick) ht hI.1 hx (C.wb (m:=J_ (gt gone 0).Ab_) (s:=(Ah_ x.x.D_ (gt gone 0).queue).1.dead) (hg _ (Ib_ hn))) (Nf_ _)
     refine Vw_ ht f _ _ _ (Sk_ hI hs.1 hs.2.1 hn rfl hm e4.1 hs.2.2 rfl e4.2) (Ut_ hn hf rfl hm e4.1 hs.2.2 rfl e4.2) (λg q=>?_) hw.1
     rcases List.mem_append.1 (List.mem_of_mem_drop q) with q|q
     . exact hg g q
     . exact hw.2 g q
theorem bury_v {gone:List Hp_} {tick:Int} (ht:T tick) (h:StOk s) (hg:gone.length<=600/\∀ g∈gone,MlOk g.Ab_) (hw:∀ g∈gone,W g.Ab_) (hs:Kw T K M s0 s):Kw T K M s0 (Cp_ s gone tick).1:=
 Vw_ C ht _ gone 0 s (buryI0 h hg) (Nat.lt_succ_self _) hw hs
section
variable {d:L_}
theorem settle_w (ht:T d.tick) (h:StOk s) (hs:Kw T K M s0 s):Kw T K M s0 (Dm_ s d).1:=by
 unfold Dm_ lt
 let Q:E_×Bh_×Int->Prop:=λr=>Kw T K M s0 r.1
 refine bt (P:=Q) (λ_=>hs) λ_=>?_
 refine bt (P:=Q) (λ_=>hs.D_ (C.kb hs.k)) λ_=>?_
 have hr:=K4_ (n:=d.name) (id:=d.id) h.stk
 have hk:=C.kr (n:=d.name) (i:=d.id) hs.k
 refine bt (P:=Q) (λ_=>bury_v C ht (Cz_ h hr.1) ⟨by simp,λg hg=>?_⟩ (λg hg=>?_) (hs.D_ hk.1)) λ_=>hs.D_ hk.1
 . rw[List.mem_singleton.1 hg];exact hr.2
 . rw[List.mem_singleton.1 hg];exact hk.2
theorem late_w0 {t:Int} (ht:T t):∀ (f:Nat) (gone:List Hp_) (x:E_),StOk x->(∀ g∈gone,MlOk g.Ab_)->(∀ g∈gone,W g.Ab_)->gone.length+nik x.x.D_<=512->nik x.x.D_<f->Kw T K M s0 x->Kw T K M s0 (Ee_ t f gone x).1
 |0,_,_,_,_,_,_,h,_=>by omega
 |f+1,gone,x,h,hg,hw,hl,hf,hs=>by
   unfold Ee_ lt
   let Q:E_×Bh_->Prop:=λr=>Kw T K M s0 r.1
   refine bt (P:=Q) (λ_=>bury_v C ht h ⟨by omega,hg⟩ hw hs) λe=>?_
   have e':(Az_ x.x.D_ t).2.2=true:=by simpa using e
   have hr:=K4_ (n:=(Az_ x.x.D_ t).1) (id:=(Az_ x.x.D_ t).2.1.id) h.stk
   refine late_w0 ht f _ _ (Cz_ h hr.1) (λg q=>?_) (λg q=>?_) (late_in h.stk rfl e' rfl hl) (late_mu h.stk rfl e' rfl hf) (hs.D_ (C.kr hs.k).1)
   . rcases List.mem_append.1 q with q|q
     . exact hg g q
     . rw[List.mem_singleton.1 q];exact Wu_ h.stk
   . rcases List.mem_append.1 q with q|q
     . exact hw g q
     . rw[List.mem_singleton.1 q];exact C.kt hs.k
theorem late_w {t:Int} (ht:T t) (h:StOk s) (hs:Kw T K M s0 s):Kw T K M s0 (F2_ s t).1:=
 late_w0 C ht _ [] s h (λ_ h=>by cases h) (λ_ h=>by cases h) (by have :=nik_r h.stk;simpa using this) (Nat.lt_succ_self _) hs
theorem put_w (ht:T d.tick) (h:StOk s) (h0:0<=d.Ab_.hops) (hm:W d.Ab_) (hs:Kw T K M s0 s):Kw T K M s0 (Es_ s d).1:=by
 unfold Es_ lt
 let Q:E_×Bh_×Int->Prop:=λr=>Kw T K M s0 r.1
 have h1:=Nc_ (s:=s) (m:=J_ d.Ab_) (tick:=d.tick) h h0
 have hl:=Nb_ (s:=s) (m:=J_ d.Ab_) (tick:=d.tick) h
 have hw:=send_w C (m:=J_ d.Ab_) (tick:=d.tick) ht h hs hm h0
 exact bt (P:=Q) (λ_=>hs) λ_=>bury_v C ht h1.1 ⟨by omega,h1.2.1⟩ hw.2 hw.1
theorem lend_w (hs:Kw T K M s0 s):Kw T K M s0 (Du_ s d).1:=by
 unfold Du_ lt
 let Q:E_×Bh_×Int->Prop:=λr=>Kw T K M s0 r.1
 refine bt (P:=Q) (λ_=>hs) λ_=>?_
 exact bt (P:=Q) (λ_=>hs) λ_=>hs.D_ (C.kl hs.k)
theorem pull_w (ht:T d.tick) (h:StOk s) (hm:W d.Ab_) (hs:Kw T K M s s):Kw T K M s (Dv_ s d).1\/Kw T K M (Zu_ s d) (Dv_ s d).1:=by
 unfold Dv_ lt
 let Q:E_×Bh_×Int->Prop:=λr=>Kw T K M s r.1\/Kw T K M (Zu_ s d) r.1
 refine bt (P:=Q) (λ_=> .inl hs) λ_=>bt (P:=Q) (λ_=> .inl hs) λ_=>bt (P:=Q) (λ_=> .inl hs) λ_=>?_
 let I:E_->Prop:=λx=>StOk x/\Kw T K M (Zu_ s d) x
 have h2:Kw T K M (Zu_ s d) (⟨(⟨s.x.book,s.x.D_,s.x.notes,(A16.set s.x.seen d.number ((d.frm).toNat)),s.x.spent⟩:U_),s.K_,s.place⟩:E_):=⟨rfl,rfl,rfl,hs.k,hs.n,rfl,λ_=>id⟩
 refine lt1E (P:=Q) I ?_ λx hx=>?_
 . exact bt (P:=I) (λ_=>⟨(Kn_ (D0_ h)).1,Kw.note C h2 ht (by decide)⟩) λ_=>⟨D0_ h,h2⟩
 . refine bt (P:=Q) (λ_=> .inr (Kw.note C hx.2 ht (by decide))) λ_=>?_
   have h1:=Nc_ (s:=x) (m:=⟨(J_ d.Ab_).id,(J_ d.Ab_).Bb_,(J_ d.Ab_).key,(J_ d.Ab_).head,(J_ d.Ab_).body,(J_ d.Ab_).due,IntKind.wrap .u8 ((J_ d.Ab_).hops+1)⟩) (tick:=d.tick) hx.1 (Nf_ _)
   have hl:=Nb_ (s:=x) (m:=⟨(J_ d.Ab_).id,(J_ d.Ab_).Bb_,(J_ d.Ab_).key,(J_ d.Ab_).head,(J_ d.Ab_).body,(J_ d.Ab_).due,IntKind.wrap .u8 ((J_ d.Ab_).hops+1)⟩) (tick:=d.tick) hx.1
   have hw:=send_w C (tick:=d.tick) ht hx.1 hx.2 (C.wp (m:=J_ d.Ab_) hm) (Nf_ _)
   exact .inr (bury_v C ht h1.1 ⟨by omega,h1.2.1⟩ hw.2 hw.1)
theorem do_w (ht:T d.tick) (hc:0<=d.code/\d.code<=255) (h:StOk s) (h0:0<=d.Ab_.hops) (hm:W d.Ab_) (hs:Kw T K M s s):(O_ s d).1=s\/(Kw T K M s (O_ s d).1\/Kw T K M (Zu_ s d) (O_ s d).1)\/(O_ s d).1=(A2_ s d).1\/(O_ s d).1=(Ax_ s d).1:=by
 unfold O_ lt
 let Q:E_×Bh_×Int->Prop:=λr=>r.1=s\/(Kw T K M s r.1\/Kw T K M (Zu_ s d) r.1)\/r.1=(A2_ s d).1\/r.1=(Ax_ s d).1
 refine bt (P:=Q) (λe=> .inl rfl) λ_=>?_
 let I:Int×E_×Bh_->Prop:=λr=>(Kw T K M s r.2.1\/Kw T K M (Zu_ s d) r.2.1)\/r.2.1=(A2_ s d).1\/r.2.1=(Ax_ s d).1
 refine lt3E (P:=Q) I ?_ λa b c hb=>bt (P:=Q) (λe=> .inl rfl) λe=> .inr hb
 refine lt1E (P:=I) (λv:Bool=>True) trivial λv hv=>?_
 refine bt (P:=I) (λe=> .inr (.inl rfl)) λ_=>bt (P:=I) (λe=> .inl (.inl (put_w C ht h h0 hm hs))) λ_=>bt (P:=I) (λe=> .inl (.inl (lend_w C hs))) λ_=>bt (P:=I) (λe=> .inl (.inl (settle_w C ht h hs))) λ_=>bt (P:=I) (λe=> .inl (.inl (late_w C ht h hs))) λ_=>bt (P:=I) (λe=> .inl (pull_w C ht h hm hs)) λ_=>?_
 refine bt (P:=I) (λ_=> .inl (.inl (Kw.note C (s:=⟨⟨s.x.book,Ew_ s.x.D_,s.x.notes,s.x.seen,s.x.spent⟩,s.K_,s.place⟩) (hs.D_ (C.kw h.stk hs.k)) ht (by decide)))) λ_=>bt (P:=I) (λ_=> .inl (.inl ⟨rfl,rfl,rfl,hs.k,C.na ht hc hs.n,rfl,λ_=>id⟩)) λ_=> .inr (.inr rfl)
end
end
def ShB (s:E_) (d:L_) (b:Ap_):Prop:=b=s.x.book\/b=(Bz_ s.x.book d.Bb_).1\/b=(Ds_ s.x.book d.name).1\/b=(C1_ s.x.book d.bind).1\/b=(A4_ s.x.book d.bind).1
theorem shops_x (s:E_) (d:L_):∃ b,(Ax_ s d).1=⟨⟨b,s.x.D_,s.x.notes,s.x.seen,s.x.spent⟩,s.K_,s.place⟩/\ShB s d b:=by
 unfold Ax_ lt
 let Q:E_×Int->Prop:=λr=>∃ b,r.1=⟨⟨b,s.x.D_,s.x.notes,s.x.seen,s.x.spent⟩,s.K_,s.place⟩/\ShB s d b
 have hn:∀ {e},Q (s,e):=⟨_,rfl, .inl rfl⟩
 refine bt (P:=Q) (λ_=>?_) λ_=>?_
 . refine lp0E (P:=Q) (λ_=>True) ?_ λ_=>⟨_,rfl, .inr (.inl rfl)⟩
   refine bt (P:=LoP _ _) (λ_=>?_) λ_=>trivial
   refine bt (P:=LoP _ _) (λ_=>hn) λ_=>?_
   exact bt (P:=LoP _ _) (λ_=>hn) λ_=>trivial
 . refine bt (P:=Q) (λ_=>⟨_,rfl, .inr (.inr (.inl rfl))⟩) λ_=>bt (P:=Q) (λ_=>⟨_,rfl, .inr (.inr (.inr (.inl rfl)))⟩) λ_=>?_
   refine lp0E (P:=Q) (λ_=>True) ?_ λ_=>⟨_,rfl, .inr (.inr (.inr (.inr rfl)))⟩
   refine lt1E (P:=LoP _ _) (λ_=>True) trivial λv _=>?_
   refine bt (P:=LoP _ _) (λ_=>hn) λ_=>?_
   exact bt (P:=LoP _ _) (λ_=>hn) λ_=>trivial
theorem Xb_ (s:E_) (d:L_):∃ b k,(A2_ s d).1=⟨⟨b,k,s.x.notes,s.x.seen,s.x.spent⟩,s.K_,s.place⟩/\(k=(Ao_ s.x.D_ d.queue).1\/k=(A6_ s.x.D_ d.name).1)/\(b=s.x.book\/b=Dg_ s.x.book d.name):=by
 unfold A2_ lt
 let Q:E_×Int->Prop:=λr=>∃ b k,r.1=⟨⟨b,k,s.x.notes,s.x.seen,s.x.spent⟩,s.K_,s.place⟩/\(k=(Ao_ s.x.D_ d.queue).1\/k=(A6_ s.x.D_ d.name).1)/\(b=s.x.book\/b=Dg_ s.x.book d.name)
 exact bt (P:=Q) (λ_=>⟨_,_,rfl, .inl rfl, .inl rfl⟩) λ_=>bt (P:=Q) (λ_=>⟨_,_,rfl, .inr rfl, .inr rfl⟩) λ_=>⟨_,_,rfl, .inr rfl, .inl rfl⟩
theorem cloBw:Clw (λ_=>True) (λ_=>True) RoB NoB where
 kp:=λhs _ h=>⟨cloB.kp hs h,trivial⟩
 kl:=cloB.kl
 kr:=λh=>⟨cloB.kr h,trivial⟩
 kb:=cloB.kb
 ks:=λ_ h=>cloB.ks h
 kw:=cloB.kw
 kt:=λ_=>trivial
 na:=λ_ hk h=>cloB.na hk h
 wd:=λh=>h
 wr:=λh=>h
 wb:=λ_=>trivial
 wp:=λ_=>trivial
theorem doB {s:E_} {d:L_} (hc:0<=d.code/\d.code<=255) (h:StOk s) (h0:0<=d.Ab_.hops) (hq:0<=d.Bb_.sort) (hw:∀ p∈d.bind.want,p.wf) (hs:StB s):StB (O_ s d).1:=by
 obtain⟨h1,h2,h3⟩:=hs
 have key:∀ s0 t:E_,s0.x.book=s.x.book->Kw (λ_=>True) RoB NoB s0 t->StB t:=λs0 t e k=>⟨by rw[k.bo,e];exact h1,k.k,k.n⟩
 rcases do_w cloBw trivial hc h h0 trivial (⟨rfl,rfl,rfl,h2,h3,rfl,λ_=>id⟩:Kw (λ_=>True) RoB NoB s s) with e|(e|e)|e|e
 . rw[e];exact⟨h1,h2,h3⟩
 . exact key _ _ rfl e
 . exact key (Zu_ s d) _ rfl e
 . obtain⟨b,k,e2,e3,e4⟩:=Xb_ s d
   rw[e,e2]
   refine⟨?_,?_,h3⟩
   . show BkB b
     rcases e4 with rfl|rfl
     . exact h1
     . exact cloB.fg h1
   . show RoB k
     rcases e3 with rfl|rfl
     . exact cloB.km h2
     . exact cloB.kd h2
 . obtain⟨b,e2,e3⟩:=shops_x s d
   rw[e,e2]
   refine⟨?_,h2,h3⟩
   show BkB b
   rcases e3 with rfl|rfl|rfl|rfl|rfl
   . exact h1
   . exact cloB.ma hq h1
   . exact cloB.dp h1
   . exact cloB.ub h1
   . exact cloB.bd hw h1
theorem ntf_nil:NtF ⟨0,[]⟩:=⟨by simp,by decide,λ_ h=>by cases h⟩
theorem nadd_f {n:B7_} {x:D5_} (ht:U64 x.tick) (hk:0<=x.kind/\x.kind<=255) (h:NtF n):NtF (C4_ n x).1:=by
 obtain⟨⟨h1,h2⟩,h3,h4⟩:=h
 unfold C4_
 let Q:B7_×Int->Prop:=λr=>NtF r.1
 refine bt (P:=Q) (λ_=>⟨⟨h1,h2⟩,h3,h4⟩) λe1=>bt (P:=Q) (λ_=>⟨⟨h1,h2⟩,h3,h4⟩) λe2=>?_
 simp only[decide_eq_false_iff_not] at e1 e2
 have hw:IntKind.wrap .u64 (n.total+1)=n.total+1:=Ck_ (by omega) (by omega)
 have hl:([n.kept,[x]].flatten).length=n.kept.length+1:=by simp
 refine⟨⟨?_,?_⟩,?_,λy hy=>?_⟩
 . show 0<=IntKind.wrap .u64 (n.total+1)
   omega
 . show IntKind.wrap .u64 (n.total+1)<=18446744073709551615
   omega
 . show (((([n.kept,[x]].flatten).drop ((max 0 ((([n.kept,[x]].flatten).length:Int)-32))).toNat)).length:Int)=min (IntKind.wrap .u64 (n.total+1)) 32
   rw[List.length_drop,hl,hw]
   omega
 . have hy:y∈([n.kept,[x]].flatten).drop ((max 0 ((([n.kept,[x]].flatten).length:Int)-32))).toNat:=hy
   have hy:=List.mem_of_mem_drop hy
   simp only[List.flatten_cons,List.flatten_nil,List.append_nil,List.mem_append,List.mem_singleton] at hy
   rcases hy with q|q
   . exact h4 y q
   . subst q
     exact⟨ht,hk,by omega⟩
theorem rif_nil:RiF ⟨0,[]⟩:=⟨by simp,by decide,λ_ h=>by cases h⟩
theorem rput_f {x:Bc_} {m:Mail} (hm:Gt_ m=0->MlF m) (h:RiF x):RiF (Cc_ x m).1:=by
 obtain⟨⟨h1,h2⟩,h3,h4⟩:=h
 unfold Cc_ lt
 let Q:Bc_×Int->Prop:=λr=>RiF r.1
 refine bt (P:=Q) (λ_=>⟨⟨h1,h2⟩,h3,h4⟩) λe1=>bt (P:=Q) (λ_=>⟨⟨h1,h2⟩,h3,h4⟩) λe2=>?_
 simp only[Bool.not_eq_false',decide_eq_true_eq] at e1
 simp only[decide_eq_false_iff_not] at e2
 have hw:IntKind.wrap .u64 (x.total+1)=x.total+1:=Ck_ (by omega) (by omega)
 have hc:J_ m=m:=rfl
 have hl:([x.kept,[J_ m]].flatten).length=x.kept.length+1:=by simp
 refine⟨⟨?_,?_⟩,?_,λy hy=>?_⟩
 . show 0<=IntKind.wrap .u64 (x.total+1)
   omega
 . show IntKind.wrap .u64 (x.total+1)<=18446744073709551615
   omega
 . show (((([x.kept,[J_ m]].flatten).drop ((max 0 ((([x.kept,[J_ m]].flatten).length:Int)-16))).toNat)).length:Int)=min (IntKind.wrap .u64 (x.total+1)) 16
   rw[List.length_drop,hl,hw]
   omega
 . have hy:y∈([x.kept,[J_ m]].flatten).drop ((max 0 ((([x.kept,[J_ m]].flatten).length:Int)-16))).toNat:=hy
   have hy:=List.mem_of_mem_drop hy
   simp only[List.flatten_cons,List.flatten_nil,List.append_nil,List.mem_append,List.mem_singleton] at hy
   rcases hy with q|q
   . exact h4 y q
   . rw[hc] at q;subst q
     exact hm e1
def Nj_ (x:M_):Bs:=numB 1 (Di_ x).toNat++Bp_ x.Ab_
def rowB (r:Gi_):Bs:=txtB r.q.name++(numB 8 r.q.most.toNat++(numB 8 r.q.life.toNat++(txtB r.q.dead++(numB 1 r.l.items.length++r.l.items.flatMap Nj_))))
def upB (a:A16_RiseR):Nat->Bs
 |0=>[]
 |n+1=>(if 0<(A16.get a (15-n)).total then numB 1 (15-n)++By_ (A16.get a (15-n)) else [])++upB a n
def upN (a:A16_RiseR):Nat->Nat
 |0=>0
 |n+1=>(if 0<(A16.get a (15-n)).total then 1 else 0)+upN a n
theorem upN_le (a:A16_RiseR):∀ n,upN a n<=n
 |0=>Nat.le_refl 0
 |n+1=>by
   have :=upN_le a n
   rw[upN]
   split<;>omega
theorem all_id0:∀ (t out:List M_),Dc_ t out=out++t
 |[],out=>by simp[Dc_]
 |x::t,out=>by
   rw[Dc_,lt,all_id0 t]
   simp[B6_,lt,J_]
theorem all_id (l:Ae_):Et_ l=l.items:=by
 unfold Et_
 rw[all_id0];rfl
theorem ke1:∀ (t:List M_) (o:Out),A7_ t o=⟨o.s++t.flatMap Nj_,o.err⟩
 |[],o=>by simp[A7_]
 |y::t,o=>by
   rw[A7_,ke1 t,Gu_]
   simp[Aq_,Nj_]
theorem ke2 (s:F_) (x:Out):∀ (n f:Nat) (many:Nat) (o:Out),n<=16->n<f->many+n<=16->Cw_ s x f many (16-n) o=x.s++(numB 1 (many+upN s.rises n)++(o.s++upB s.rises n))
 |_,0,_,_,_,h,_=>by omega
 |0,f+1,many,o,_,_,_=>by
   rw[Cw_]
   have e:decide (((16-0:Nat):Int)<16)=false:=by decide
   rw[e,cond_false,Gu_]
   simp[Aq_,upN,upB]
 |n+1,f+1,many,o,h,hf,hm=>by
   rw[Cw_]
   have e:decide (((16-(n+1):Nat):Int)<16)=true:=decide_eq_true (by omega)
   have hv:16-(n+1)=15-n:=by omega
   have hv2:16-(n+1)+1=16-n:=by omega
   rw[e,cond_true,lt,hv2,hv]
   have ht:Dr_ (A16.get s.rises (15-n))=(A16.get s.rises (15-n)).total:=rfl
   rw[ht]
   by_cases q:0<(A16.get s.rises (15-n)).total
   . rw[decide_eq_true q,cond_true]
     have hw:IntKind.wrap .u64 ((many:Int)+1)=((many+1:Nat):Int):=by rw[Ck_ (by omega) (by omega)];omega
     rw[hw,ke2 s x n f (many+1) _ (by omega) (by omega) (by omega),Gu_,upN,upB,if_pos q,if_pos q]
     simp only[Aq_,List.append_assoc,Int.toNat_natCast]
     rw[Nat.add_assoc]
   . rw[decide_eq_false q,cond_false,ke2 s x n f many _ (by omega) (by omega) (by omega),upN,upB,if_neg q,if_neg q]
     simp
theorem ke0 (s:F_):∀ (t:List Gi_) (o:Out),(∀ r∈t,LnOk r.l/\Bj_ r.q=0)->Bg_ s t o=o.s++(t.flatMap rowB++(numB 1 (upN s.rises 16)++upB s.rises 16))
 |[],o,_=>by
   rw[Bg_]
   have :=ke2 s o 16 17 0 (⟨[],0⟩:Out) (by omega) (by omega) (by omega)
   simpa using this
 |r::t,o,h=>by
   obtain⟨hl,hq⟩:=h r (by simp)
   obtain⟨q1,q2,_,_⟩:=Qd_ hq
   have h64:=hl.1
   have hw:IntKind.wrap .u64 (A8_ r.l)=(r.l.items.length:Int):=Ck_ (show (0:Int)<=(r.l.items.length:Int) by omega) (show (r.l.items.length:Int)<=_ by omega)
   rw[Bg_,lt1,lt,all_id,ke1,hw,Gu_,Ch_ (s:=r.q.dead) (by omega),Ko_,Ko_,Ch_ (s:=r.q.name) (by omega)]
   rw[ke0 s t _ (λz hz=>h z (by simp[hz]))]
   simp[rowB,List.append_assoc]
theorem ke {s:F_} (hs:StkOk s) (hq:RoB s):S_ s=numB 8 s.next.toNat++(numB 1 s.rows.length++(s.rows.flatMap rowB++(numB 1 (upN s.rises 16)++upB s.rises 16))):=by
 unfold S_
 rw[ke0 s _ _ (λr hr=>⟨hs.1.2.1 r hr,hq r hr⟩),Gu_,Ko_]
 simp
end Go.SW.V
namespace Go.SW
variable {P:Program} {n:Nat} {N:Rest} {H0:Env} {all rest:List Oper} {Q:Qs} {ks:List Kt} {s:St} {T ty d:Nat} {pos:String} {af:Array Edge} {x:Operand} {K:St->Prop}
structure Fy (P:Program) (G:Gb) (f:FuncId) (arg:PV) (args:List PV) (T:TypeId) (pre:List PV) (res:PV) (post:List PV):Prop where
 cb:Ad_ P f
 no:res.noOsl=true
 np:Cs_ post=true
 run:∀ (N:Rest) (H:Hp) (L:Ls) (w:World) (b i:Nat) (v0:Value) (vs vc:List Value),G.p H->Sim H arg v0->Sims H args vs->L i=some (b,bx T vc)->Sims H pre vc->Mem N H L w ->
   Calls P f (v0::Value.pointer (some ⟨b,0,none⟩)::vs).toArray w λe w'=>∃ v H' vc',e = .returned v/\Sim H' res v/\Sims H' post vc'/\HLe H H'/\Mem N H' (lupd L i (some (b,bx T vc'))) w'
theorem fy_cw {tb:Tb} {G:Gb} {m:Nat} {f:FuncId} {fn:Func} {c:Code} {arg:PV} {args pre post:List PV} {res:PV} {T:Nat} (ht:tbB P tb=true) (hf:P.funcs[f]? = some fn) (hb:fn.body=some c) (hn:fn.ntmps=m) (hs:Nat.ble (args.length+2) m=true) (hcb:Ad_ P f) (hno:res.noOsl=true) (hna:Cs_ (arg::args)=true) (hnp:Cs_ pre=true) (hnq:Cs_ post=true)
   (h:PV.wfs (arg::args)->PV.wfs pre->∀ b N H,G.p H->Hd P m N ⟨H,G⟩ (rmK tb fn.results.toList res b T post) (.code c) [] ⟨Ni_ (arg :: .own 0 b 0::args),lups (λ_=> .no) 0 (.box b T pre)⟩):Fy P G f arg args T pre res post:=by
 refine⟨hcb,hno,hnq,λN H L w b i v0 vs vc hg hs0 hsim hL hpre hm=>?_⟩
 subst hn
 simp only[Cs_,Bool.and_eq_true] at hna
 have hs':Sims H (arg :: .own 0 b 0::args) (v0::Value.pointer (some ⟨b,0,none⟩)::vs):=(hsim.cons Sim.own).cons hs0
 have key:Pm P f (v0::Value.pointer (some ⟨b,0,none⟩)::vs).toArray H b (bx T vc) (λv H' o'=>∃ vc',o'=bx T vc'/\Sim H' res v/\Sims H' post vc'):=by
   refine pm_of_cw hf hb (by have :=Nat.le_of_ble_eq_true hs;simp[hsim.1];omega) λN=>?_
   have h1:=h (hsim.cons hs0).wf hpre.wf b N H hg (Jy_ (v0::Value.pointer (some ⟨b,0,none⟩)::vs).toArray) H (ofL [(b,bx T vc)]) ⟨.refl H,hg,λt=>Kx_ hs' (by simp only [Cs_,Bool.and_eq_true];exact ⟨hna.1,rfl,hna.2⟩) t,λj=>by
     by_cases e:j=0
     . subst e;simp only[Ec_];exact⟨vc,rfl,H3_ hpre hnp⟩
     . simp only[Hd_ _ _ _ _ e];trivial⟩
   refine Jk_ (λe F' H' L' hq=>?_) h1
   obtain⟨s',ha',hq',q,hq1,hq2,hq3⟩:=hq
   obtain⟨he,v,hr,hv⟩:=Na_ (N:=N) ht ha' hq'
   have h3:=ha'.l 0
   rw[hq1] at h3
   obtain⟨vc',hL',hsv⟩:=h3
   rcases he with rfl|rfl
   . exact⟨v,hr,ha'.le,_,hL',vc',rfl,hv,hq3 _ _ hsv.sims⟩
   . exact⟨v,hr,ha'.le,_,hL',vc',rfl,hv,hq3 _ _ hsv.sims⟩
 exact (key N L w i hL hm).mono λ_ _ ⟨v,H',o',h1,⟨vc',h5,h6,h7⟩,h3,h4⟩=>⟨v,H',vc',h1,h6,h7,h3,by rw[<- h5];exact h4⟩
theorem ecally {f:FuncId} {arg:PV} {args pre post:List PV} {res:PV} {as0:Array Operand} {ats:Array TypeId} {i b b' T0 off:Nat} (h:Fy P H0.g f arg args T0 pre res post) (ha:argsP s.F x as0.toList=some (f,arg :: .own i b off::args)) (hoff:off=0) (hb:s.L i = .box b' T0 pre) (hbb:b'=b) (hd:Nat.blt d n=true) (k:res.wf->PV.wfs post->K ⟨updp s.F d res,lups s.L i (.box b T0 post)⟩):E1 P n N H0 all ⟨some d, .call ⟨.value x,as0,ats⟩,ty,pos,af,none⟩ (some i) s K:=by
 intro F H L hab
 subst hoff;subst hbb
 obtain⟨us,h1,h2⟩:=Is_ (ats:=ats) hab.f ha h.cb
 obtain⟨v1,us1,rfl,g3,g4⟩:=h1.inv_cons
 obtain⟨v0,vs,rfl,h3,h4⟩:=g4.inv_cons
 have h5:=h3.inv_own
 subst h5
 have h6:=hab.l i
 rw[hb] at h6
 obtain⟨vc,hL,hsv⟩:=h6
 intro a w hA hm
 rw[if_pos (by simp[Region.wanted])]
 unfold Oper.wp
 rw[hA.eval,h2]
 refine (h.run N H L w b' i v1 vs vc hab.g g3 h4 hL hsv.sims hm).mono λe' w' ⟨v,H',vc',he,hv,hp,hl,hm'⟩=>?_
 subst he
 refine⟨_,H',_,hA.put (by simpa using hd) v,hm',hl,only,_,Abs.put (p:=res) ((hab.mono hl).turnB (B:= .box b' T0 post) i trivial ⟨vc',rfl,H3_ hp h.np⟩) d (hv.simT h.no),k hv.wf hp.wf⟩
end Go.SW
namespace Go.SW.V
open Go.SW
variable {P:Program} {n:Nat} {N:Rest} {H0:Env} {all rest:List Oper} {Q:Qs} {ks:List Kt} {fF:Nat->PV} {fL:Nat->Blk} {T ty d:Nat} {pos:String} {af:Array Edge} {x:Operand} {K:St->Prop}
theorem ecally {f:FuncId} {arg:PV} {args pre post:List PV} {res:PV} {as0:Array Operand} {ats:Array TypeId} {i b b' T0 off:Nat} (h:Fy P H0.g f arg args T0 pre res post) (ha:argsP fF x as0.toList=some (f,arg :: .own i b off::args)) (hoff:off=0) (hb:fL i = .box b' T0 pre) (hbb:b'=b) (hd:Nat.blt d n=true) (k:res.wf->PV.wfs post->K ⟨updp fF d res,lups fL i (.box b T0 post)⟩):E1 P n N H0 all ⟨some d, .call ⟨.value x,as0,ats⟩,ty,pos,af,none⟩ (some i) ⟨fF,fL⟩ K:=SW.ecally (s:=⟨fF,fL⟩) h ha hoff hb hbb hd k
end Go.SW.V
namespace Go.SW.V
open Go.SW
theorem binds_id (b:Ap_):Cm_ b=b.binds:=Jj_ b
theorem shops_f {b:Ap_} (h:BkOk b) (h2:BkB b):(Dd_ b).length<=8/\∀ s∈Dd_ b,Kq_ s=0:=⟨h.1,λs hs=>(h2.1 s hs).1⟩
theorem binds_f {b:Ap_} (h:BkOk b) (h2:BkB b):(Cm_ b).length<=32/\∀ s∈Cm_ b,BiB s:=by
 rw[binds_id];exact⟨h.2.1,h2.2⟩
theorem bib_f {y:P_} (h:BiB y):y.Bb_.length<=16/\y.to'.length<=16/\y.key.length<=64:=⟨h.1,Mp_ h.2.1,h.2.2.1⟩
theorem X9_ (s:F_) (q:Q_):(Ao_ s q).2=0->0<(Ao_ s q).1.rows.length:=by
 unfold Ao_ lt
 let R:F_×Int->Prop:=λr=>r.2=0->0<r.1.rows.length
 refine bt (P:=R) (λe h=>?_) λ_=>bt (P:=R) (λe _=>?_) λ_=>bt (P:=R) (λ_ h=>by cases h) λ_=>bt (P:=R) (λ_ h=>by cases h) λ_ _=>?_
 . simp only[Bool.not_eq_true',decide_eq_false_iff_not] at e
   exact (e h).elim
 . simp only[Bool.and_eq_true,decide_eq_true_eq] at e
   have :=at_b s q.name;have :=e.1
   show 0<s.rows.length
   omega
 . simp
def Gd_ (x:U_):Nat->Nat->Out->Bs
 |0,_,_=>default
 | f4+1,v1,x4=>(bif decide ((v1:Int)<8) then
 Gd_ x f4 (v1+1) (B_ (B_ x4 ((A8.get x.spent v1).round) 8) (IntKind.wrap .u64 ((A8.get x.spent v1).count)) 1)
 else x4.s)
def Hb_ (x:U_):Nat->Nat->Out->Bs
 |0,_,_=>default
 | f5+1,v,x3=>(bif decide ((v:Int)<16) then
 Hb_ x f5 (v+1) (B_ x3 (A16.get x.seen v) 8)
 else Gd_ x (8-0+1) 0 x3)
def Ef_ (x:U_):List P_->Out->Bs
 |[],x2=>lt (S_ x.D_) λr2=>
 Hb_ x (16-0+1) 0 (Aq_ (Aq_ (B_ x2 (r2.length:Int) 4) r2) (De_ x.notes))
 |x5::t,x2=>Ef_ x t (B_ (Aq_ (H_ (B_ (H_ (H_ x2 (x5.Bb_)) (x5.to')) (Fg_ (x5.up)) 1) (x5.key)) (Bi_ (x5.want))) (Fg_ (x5.all)) 1)
def E1_ (x:U_) (r1:(List P_)):List W_->Out->Bs
 |[],x1=>Ef_ x r1 (B_ x1 (r1.length:Int) 1)
 |x6::t1,x1=>E1_ x r1 t1 (H_ (B_ (H_ x1 (x6.name)) (x6.sort) 1) (x6.to'))
def Cx_ (x:U_):Bs:=
 lt (Dd_ x.book) λr=>
 lt (Cm_ x.book) λr1=>
 E1_ x r1 r (B_ (⟨[],0⟩:Out) (r.length:Int) 1)
def A1_ (s:F_) (r:Bs×In) (r1:Int×In) (r2:Int×In) (r3:Bs×In):Nat->List M_->Int->In->F_×In
 |0,_,_,_=>default
 | f2+1,items,n,x=>(bif ((decide (0<n))&&(decide (x.err=0))) then
 lt (Z_ x 1) λr5=>
 lt (Ea_ r5.2) λr6=>
 (bif ((decide (3<r5.1))||((!decide (s.next = 0))&&(decide (s.next <= r6.1.id)))) then
 A1_ s r r1 r2 r3 f2 (items++[(⟨r6.1,decide ((r5.1%2)=1),decide ((r5.1/2)=1)⟩:M_)]) (IntKind.wrap .u64 (n-1)) (Bo_ r6.2 4)
 else A1_ s r r1 r2 r3 f2 (items++[(⟨r6.1,decide ((r5.1%2)=1),decide ((r5.1/2)=1)⟩:M_)]) (IntKind.wrap .u64 (n-1)) r6.2)
 else lt (Nv_ items) λr7=>
 (lt1 ((bif ((decide (r1.1<(IntKind.wrap .u64 (A8_ r7.1))))||(decide (0<=(I_ s r.1)))) then
 (Bo_ (Bo_ x r7.2) 4)
 else (Bo_ x r7.2))) (λx1=>
 lt (Ao_ s (⟨r.1,r1.1,r2.1,r3.1⟩:Q_)) λr8=>
 (bif decide (((Bo_ x1 r8.2).err)=0) then
 lt (Ac_ r8.1 ((r8.1.rows.length:Int)-1) r7.1) λr9=>
 (r9,(Bo_ x1 r8.2))
 else (r8.1,(Bo_ x1 r8.2))))))
def Cf_ (s:F_) (i:In):F_×In:=
 lt (Y_ i 16) λr=>
 lt (Z_ r.2 8) λr1=>
 lt (Z_ r1.2 8) λr2=>
 lt (Y_ r2.2 16) λr3=>
 lt (Z_ r3.2 1) λr4=>
 A1_ s r r1 r2 r3 ((r4.1).toNat+1) [] r4.1 r4.2
theorem stk_def:StkOk default/\RoB default:=⟨knew_ok 0 0 (by decide),λ_ h=>by cases h⟩
theorem rob_make {s:F_} {q:Q_} (h:RoB s):RoB (Ao_ s q).1:=cloB.km h
theorem Xe_ {s:F_} (hs:StkOk s) (hq:RoB s) (r:Bs×In) (r1 r2:Int×In) (r3:Bs×In):∀ (f:Nat) (items:List M_) (n:Int) (x:In),(∀ y∈items,MlOk y.Ab_)->StkOk (A1_ s r r1 r2 r3 f items n x).1/\RoB (A1_ s r r1 r2 r3 f items n x).1
 |0,_,_,_,_=>stk_def
 |f+1,items,n,x,hi=>by
   rw[A1_]
   let R:F_×In->Prop:=λy=>StkOk y.1/\RoB y.1
   refine bt (P:=R) (λ_=>?_) λ_=>?_
   . have h1:=mls_app (x:=(⟨(Ea_ (Z_ x 1).2).1,decide (((Z_ x 1).1%2)=1),decide (((Z_ x 1).1/2)=1)⟩:M_)) hi (M6_ (Z_ x 1).2)
     unfold lt
     exact bt (P:=R) (λ_=>Xe_ hs hq r r1 r2 r3 f _ _ _ h1) λ_=>Xe_ hs hq r r1 r2 r3 f _ _ _ h1
   . unfold lt lt1
     refine bt (P:=R) (λe=>?_) λ_=>⟨M2_ hs,rob_make hq⟩
     simp only[decide_eq_true_eq] at e
     have h2:=X9_ s _ (Ru_ e).2
     exact⟨M3_ (M2_ hs) (lof_ok hi) (by omega),On_ (rob_make hq)⟩
theorem rrow_ok {s:F_} (hs:StkOk s) (hq:RoB s) (i:In):StkOk (Cf_ s i).1/\RoB (Cf_ s i).1:=by
 unfold Cf_ lt
 exact Xe_ hs hq _ _ _ _ _ _ _ _ mls_nil
theorem knew_f (b n:Int) (h:n<=1000000):StkOk (B4_ b n)/\RoB (B4_ b n):=⟨knew_ok b n h,λ_ h=>by cases h⟩
theorem lput_fwd {l:Ae_} {x:M_} (hm:Gt_ x.Ab_=0) (hl:l.items.length<64) (hr:∀ y∈l.items,y.Ab_.id<x.Ab_.id):Ej_ l x=(⟨l.items++[x]⟩,0):=by
 have hc:E6_ l x.Ab_=0:=by
   unfold E6_
   have e1:decide (Gt_ x.Ab_=0)=true:=decide_eq_true hm
   rw[e1]
   simp only[Bool.not_true,cond_false]
   have e2:((decide (0<(l.items.length:Int)))&&(decide (x.Ab_.id<=((gt l.items ((((l.items.length:Int)-1)).toNat)).Ab_.id))))=false:=by
     rw[Bool.and_eq_false_iff,decide_eq_false_iff_not,decide_eq_false_iff_not]
     by_cases q:0<(l.items.length:Int)
     . right
       have :=hr _ (Ib_ (xs:=l.items) (k:=((l.items.length:Int)-1).toNat) (by omega))
       omega
     . exact .inl q
   have e3:decide (64<=(l.items.length:Int))=false:=decide_eq_false (by omega)
   rw[e2,e3];rfl
 unfold Ej_
 rw[lt,hc]
 simp[B6_,lt,J_]
theorem lof_fwd0:∀ (t:List M_) (l:Ae_),Oz_ (l.items++t)->(l.items++t).length<=64->(∀ x∈t,Gt_ x.Ab_=0)->Gv_ t l=(⟨l.items++t⟩,0)
 |[],l,_,_,_=>by rw[Gv_];simp
 |x::t,l,hr,hl,hm=>by
   have h1:∀ y∈l.items,y.Ab_.id<x.Ab_.id:=λy hy=>by
     have :=hr
     unfold Oz_ at this
     rw[List.map_append,List.map_cons,List.pairwise_append] at this
     exact this.2.2 y.Ab_.id (List.mem_map.2 ⟨y,hy,rfl⟩) x.Ab_.id (by simp)
   simp only[List.length_append,List.length_cons] at hl
   rw[Gv_,lt,lput_fwd (hm x (by simp)) (by omega) h1]
   simp only[decide_true,Bool.not_true,cond_false]
   rw[lof_fwd0 t ⟨l.items++[x]⟩ (by simpa using hr) (by simp only[List.length_append,List.length_cons,List.length_nil];omega) (λy hy=>hm y (by simp[hy]))]
   simp
theorem lof_fwd {l:Ae_} (h:LnOk l) (hm:∀ x∈l.items,Gt_ x.Ab_=0):Nv_ l.items=(l,0):=by
 unfold Nv_
 rw[lof_fwd0 l.items ⟨[]⟩ (by simpa using h.2.2) (by simpa using h.1) hm]
 rfl
theorem flag_r (x:M_):0<=Di_ x/\Di_ x<=3:=by
 have h3:IntKind.wrap .u64 (1+2)=3:=by decide
 have h2:IntKind.wrap .u64 (0+2)=2:=by decide
 unfold Di_
 rw[h2,h3]
 cases x.Ui_<;>cases x.again<;>decide
theorem flag_back (x:M_):(⟨x.Ab_,decide ((Di_ x%2)=1),decide ((Di_ x/2)=1)⟩:M_)=x:=by
 have h3:IntKind.wrap .u64 (1+2)=3:=by decide
 have h2:IntKind.wrap .u64 (0+2)=2:=by decide
 obtain⟨m,a,b⟩:=x
 unfold Di_
 rw[h2,h3]
 cases a<;>cases b<;>rfl
def ItF (next :Int) (x:M_):Prop:=MlF x.Ab_/\(next = 0\/x.Ab_.id < next)
theorem X5_ (s:F_) (r:Bs×In) (r1 r2:Int×In) (r3:Bs×In) (rest:Bs):∀ (t:List M_) (f:Nat) (acc:List M_),t.length<f->t.length<=255->(∀ x∈t,ItF s.next x)->A1_ s r r1 r2 r3 f acc (t.length:Int) ⟨t.flatMap Nj_++rest,0⟩=A1_ s r r1 r2 r3 1 (acc++t) 0 ⟨rest,0⟩
 |_,0,_,h,_,_=>by omega
 |[],f+1,acc,_,_,_=>by
   rw[A1_.eq_2,A1_.eq_2]
   simp
 |x::t,f+1,acc,hf,hl,hx=>by
   obtain⟨h1,h2⟩:=hx x (by simp)
   simp only[List.length_cons] at hf hl
   have hfl:=flag_r x
   have e1:Z_ ⟨(x::t).flatMap Nj_++rest,0⟩ 1=(Di_ x,⟨Bp_ x.Ab_++(t.flatMap Nj_++rest),0⟩):=by
     rw[List.flatMap_cons,Nj_]
     simp only[List.append_assoc]
     exact K3_ hfl.1 (by omega)
   have e2:Ea_ ⟨Bp_ x.Ab_++(t.flatMap Nj_++rest),0⟩=(x.Ab_,⟨t.flatMap Nj_++rest,0⟩):=mail_fwd h1
   rw[A1_.eq_2]
   have e:decide (0<(((x::t).length:Nat):Int))=true:=decide_eq_true (by simp only[List.length_cons];omega)
   rw[e]
   simp only[decide_true,Bool.and_true,cond_true]
   rw[lt,e1,lt,e2]
   have c1:decide (3<Di_ x)=false:=decide_eq_false (by omega)
   have c2:((!decide (s.next = 0))&&(decide (s.next <= x.Ab_.id)))=false:=by
     rw[Bool.and_eq_false_iff,Bool.not_eq_false',decide_eq_true_eq,decide_eq_false_iff_not]
     rcases h2 with q|q
     . exact .inl q
     . exact .inr (by omega)
   rw[c1,c2]
   simp only[Bool.or_false,cond_false]
   have hw:IntKind.wrap .u64 ((((x::t).length:Nat):Int)-1)=(t.length:Int):=by
     rw[Ck_ (by simp only[List.length_cons];omega) (by simp only[List.length_cons];omega)]
     simp only[List.length_cons];omega
   rw[hw,flag_back,X5_ s r r1 r2 r3 rest t f (acc++[x]) (by omega) (by omega) (λy hy=>hx y (by simp[hy]))]
   simp
def He_:Nat->Int->In->F_->In×F_
 |0,_,_,_=>default
 | f4+1,n1,x4,x5=>(bif ((decide (0<n1))&&(decide (x4.err=0))) then
 lt (Z_ x4 1) λr5=>
 lt (I0_ r5.2) λr6=>
 (bif decide (16<=r5.1) then
 ((Bo_ r6.2 4),x5)
 else He_ f4 (IntKind.wrap .u64 (n1-1)) r6.2 (⟨x5.next,x5.bytes,x5.rows,(A16.set x5.rises r6.1 ((r5.1).toNat))⟩:F_))
 else (x4,x5))
def Fl_ (text:Bs):Nat->Int->In->F_->F_×Int
 |0,_,_,_=>default
 | f5+1,n,x,x1=>(bif ((decide (0<n))&&(decide (x.err=0))) then
 lt (Cf_ x1 x) λr3=>
 Fl_ text f5 (IntKind.wrap .u64 (n-1)) r3.2 r3.1
 else (lt2 (lt (Z_ x 1) λr4=>
 He_ ((r4.1).toNat+1) r4.1 r4.2 x1) (λx2 x3=>
 (bif (((!decide ((Wo_ x2)=0))||(decide ((Dt_ x3)<0)))||(!decide ((S_ x3)=text))) then
 ((⟨0,0,[],(⟨(⟨0,[]⟩:Bc_),(⟨0,[]⟩:Bc_),(⟨0,[]⟩:Bc_),(⟨0,[]⟩:Bc_),(⟨0,[]⟩:Bc_),(⟨0,[]⟩:Bc_),(⟨0,[]⟩:Bc_),(⟨0,[]⟩:Bc_),(⟨0,[]⟩:Bc_),(⟨0,[]⟩:Bc_),(⟨0,[]⟩:Bc_),(⟨0,[]⟩:Bc_),(⟨0,[]⟩:Bc_),(⟨0,[]⟩:Bc_),(⟨0,[]⟩:Bc_),(⟨0,[]⟩:Bc_)⟩:A16_RiseR)⟩:F_),4)
 else (x3,0)))))
def Hj_ (text:Bs) (bytes:Int):F_×Int:=
 lt (Z_ (⟨text,0⟩) 8) λr=>
 lt (B4_ r.1 bytes) λr1=>
 lt (Z_ r.2 1) λr2=>
 Fl_ text ((r2.1).toNat+1) r2.1 r2.2 r1
theorem kof_ok1:∀ (f:Nat) (n:Int) (x:In) (s:F_),StkOk s->RoB s->StkOk (He_ f n x s).2/\RoB (He_ f n x s).2
 |0,_,_,_,_,_=>stk_def
 |f+1,n,x,s,hs,hq=>by
   rw[He_]
   let R:In×F_->Prop:=λy=>StkOk y.2/\RoB y.2
   refine bt (P:=R) (λ_=>?_) λ_=>⟨hs,hq⟩
   unfold lt
   refine bt (P:=R) (λ_=>⟨hs,hq⟩) λe=>?_
   simp only[decide_eq_false_iff_not] at e
   have h0:=(Bv_ x 1).1
   exact kof_ok1 f _ _ _ (hs.set _ (by omega) (rread_ok _)) hq
theorem kof_ok0 (text:Bs):∀ (f:Nat) (n:Int) (x:In) (s:F_),StkOk s->RoB s->StkOk (Fl_ text f n x s).1/\RoB (Fl_ text f n x s).1
 |0,_,_,_,_,_=>stk_def
 |f+1,n,x,s,hs,hq=>by
   rw[Fl_]
   let R:F_×Int->Prop:=λy=>StkOk y.1/\RoB y.1
   refine bt (P:=R) (λ_=>?_) λ_=>?_
   . obtain⟨h1,h2⟩:=rrow_ok hs hq x
     exact kof_ok0 text f _ _ _ h1 h2
   . unfold lt2 lt
     have h3:=kof_ok1 ((Z_ x 1).1.toNat+1) (Z_ x 1).1 (Z_ x 1).2 s hs hq
     exact bt (P:=R) (λ_=>knew_f 0 0 (by decide)) λ_=>h3
theorem kof_ok (text:Bs) (n:Int) (hn:n<=1000000):StkOk (Hj_ text n).1/\RoB (Hj_ text n).1:=by
 unfold Hj_ lt
 obtain⟨h1,h2⟩:=knew_f (Z_ (⟨text,0⟩:In) 8).1 n hn
 exact kof_ok0 text _ _ _ _ h1 h2
def RwF (next :Int) (r:Gi_):Prop:=LnOk r.l/\Bj_ r.q=0/\U64 r.q.most/\U64 r.q.life/\(r.l.items.length:Int)<=r.q.most/\∀ x∈r.l.items,ItF next x
theorem at_none {s:F_} {n:Bs} (h:∀ r∈s.rows,r.q.name≠n):I_ s n<0:=by
 by_cases q:0<=I_ s n
 . have h1:=at_b s n
   exact (h _ (Ib_ (xs:=s.rows) (k:=(I_ s n).toNat) (by omega)) (at_n q)).elim
 . omega
theorem make_fwd {s:F_} {q:Q_} (hc:Bj_ q=0) (hn:∀ r∈s.rows,r.q.name≠q.name) (hl:s.rows.length<8):Ao_ s q=(⟨s.next,s.bytes,s.rows++[⟨q,⟨[]⟩⟩],s.rises⟩,0):=by
 have ha:=at_none hn
 unfold Ao_
 rw[lt,hc,lt]
 have e1:decide (0<=I_ s q.name)=false:=decide_eq_false (by omega)
 have e2:decide (8<=(s.rows.length:Int))=false:=decide_eq_false (by omega)
 rw[e1,e2]
 simp
theorem rrow_fwd {s:F_} {r:Gi_} (h:RwF s.next r) (hn:∀ y∈s.rows,y.q.name≠r.q.name) (hl:s.rows.length<8) (rest:Bs):Cf_ s ⟨rowB r++rest,0⟩=(⟨s.next,s.bytes,s.rows++[r],s.rises⟩,⟨rest,0⟩):=by
 obtain⟨h1,h2,h3,h4,h5,h6⟩:=h
 obtain⟨q1,q2,q3,q4⟩:=Qd_ h2
 have h64:=h1.1
 have e1:Y_ ⟨rowB r++rest,0⟩ 16=(r.q.name,⟨numB 8 r.q.most.toNat++(numB 8 r.q.life.toNat++(txtB r.q.dead++(numB 1 r.l.items.length++(r.l.items.flatMap Nj_++rest)))),0⟩):=by
   rw[rowB]
   simp only[List.append_assoc]
   exact L8_ (by omega) (by omega)
 have e2:Z_ ⟨numB 8 r.q.most.toNat++(numB 8 r.q.life.toNat++(txtB r.q.dead++(numB 1 r.l.items.length++(r.l.items.flatMap Nj_++rest)))),0⟩ 8=(r.q.most,⟨numB 8 r.q.life.toNat++(txtB r.q.dead++(numB 1 r.l.items.length++(r.l.items.flatMap Nj_++rest))),0⟩):=H2_ h3.1 (by have :=h3.2;omega)
 have e3:Z_ ⟨numB 8 r.q.life.toNat++(txtB r.q.dead++(numB 1 r.l.items.length++(r.l.items.flatMap Nj_++rest))),0⟩ 8=(r.q.life,⟨txtB r.q.dead++(numB 1 r.l.items.length++(r.l.items.flatMap Nj_++rest)),0⟩):=H2_ h4.1 (by have :=h4.2;omega)
 have e4:Y_ ⟨txtB r.q.dead++(numB 1 r.l.items.length++(r.l.items.flatMap Nj_++rest)),0⟩ 16=(r.q.dead,⟨numB 1 r.l.items.length++(r.l.items.flatMap Nj_++rest),0⟩):=L8_ (by omega) (by omega)
 have e5:Z_ ⟨numB 1 r.l.items.length++(r.l.items.flatMap Nj_++rest),0⟩ 1=((r.l.items.length:Int),⟨r.l.items.flatMap Nj_++rest,0⟩):=Iv_ (by omega)
 unfold Cf_
 rw[lt,e1,lt,e2,lt,e3,lt,e4,lt,e5]
 dsimp only
 rw[X5_ s _ _ _ _ rest r.l.items _ [] (by omega) (by omega) h6,A1_.eq_2]
 have c1:decide ((0:Int)<0)=false:=by decide
 rw[c1]
 simp only[Bool.false_and,cond_false,List.nil_append]
 rw[lt,lof_fwd h1 (λx hx=>(h6 x hx).1.2.2),lt1]
 have hw:IntKind.wrap .u64 (A8_ r.l)=(r.l.items.length:Int):=Ck_ (show (0:Int)<=(r.l.items.length:Int) by omega) (show (r.l.items.length:Int)<=_ by omega)
 have ha:=at_none hn
 have c2:decide (r.q.most<(r.l.items.length:Int))=false:=decide_eq_false (by omega)
 have c3:decide (0<=I_ s r.q.name)=false:=decide_eq_false (by omega)
 dsimp only
 rw[hw,c2,c3]
 simp only[Bool.or_false,cond_false,Rt_]
 rw[lt,show (⟨r.q.name,r.q.most,r.q.life,r.q.dead⟩:Q_)=r.q from rfl,make_fwd h2 hn hl]
 simp only[Rt_,decide_true,cond_true]
 rw[lt]
 unfold Ac_
 dsimp only
 have hk:(((s.rows++[(⟨r.q,⟨[]⟩⟩:Gi_)]).length:Int)-1).toNat=s.rows.length:=by simp
 rw[hk]
 have hg:gt (s.rows++[(⟨r.q,⟨[]⟩⟩:Gi_)]) s.rows.length=⟨r.q,⟨[]⟩⟩:=by simp[gt]
 rw[hg]
 simp
def KF (s:F_):Prop:=StkOk s/\RoB s/\U64 s.next /\ (∀ r∈s.rows,RwF s.next r)/\∀ i,i<16->RiF (A16.get s.rises i)
theorem rows_fwd (text:Bs) (rest:Bs):∀ (t:List Gi_) (f:Nat) (s:F_),t.length<f->s.rows.length+t.length<=8->(∀ r∈t,RwF s.next r)->((s.rows++t).map (·.q.name)).Nodup->Fl_ text f (t.length:Int) ⟨t.flatMap rowB++rest,0⟩ s=Fl_ text 1 0 ⟨rest,0⟩ ⟨s.next,s.bytes,s.rows++t,s.rises⟩
 |_,0,_,h,_,_,_=>by omega
 |[],f+1,s,_,_,_,_=>by
   rw[Fl_.eq_2,Fl_.eq_2]
   simp
 |r::t,f+1,s,hf,hl,hr,hn=>by
   simp only[List.length_cons] at hf hl
   have hn1:∀ y∈s.rows,y.q.name≠r.q.name:=λy hy=>by
     rw[List.map_append,List.nodup_append] at hn
     exact hn.2.2 y.q.name (List.mem_map.2 ⟨y,hy,rfl⟩) r.q.name (by simp)
   have e1:Cf_ s ⟨(r::t).flatMap rowB++rest,0⟩=(⟨s.next,s.bytes,s.rows++[r],s.rises⟩,⟨t.flatMap rowB++rest,0⟩):=by
     rw[List.flatMap_cons,List.append_assoc]
     exact rrow_fwd (hr r (by simp)) hn1 (by omega) _
   rw[Fl_.eq_2]
   have e:decide (0<(((r::t).length:Nat):Int))=true:=decide_eq_true (by simp only[List.length_cons];omega)
   rw[e]
   simp only[decide_true,Bool.and_true,cond_true]
   rw[lt,e1]
   have hw:IntKind.wrap .u64 ((((r::t).length:Nat):Int)-1)=(t.length:Int):=by
     rw[Ck_ (by simp only[List.length_cons];omega) (by simp only[List.length_cons];omega)]
     simp only[List.length_cons];omega
   rw[hw,rows_fwd text rest t f ⟨s.next,s.bytes,s.rows++[r],s.rises⟩ (by omega) (by simp only[List.length_append,List.length_cons,List.length_nil];omega) (λy hy=>hr y (by simp[hy])) (by simpa using hn)]
   simp
theorem ups_fwd (a:A16_RiseR) (ha:∀ i,i<16->RiF (A16.get a i)):∀ (n f:Nat) (s:F_),n<=16->upN a n<f->(∀ i,i<16->A16.get s.rises i = if i<16-n then A16.get a i else ⟨0,[]⟩)->∃ z:A16_RiseR,(∀ i,i<16->A16.get z i=A16.get a i)/\He_ f (upN a n:Int) ⟨upB a n,0⟩ s=(⟨[],0⟩,⟨s.next,s.bytes,s.rows,z⟩)
 |0,f,s,_,hf,h=>by
   refine⟨s.rises,λi hi=>by rw[h i hi,if_pos (by omega)],?_⟩
   obtain⟨g,rfl⟩:∃ g,f=g+1:=⟨f-1,by omega⟩
   rw[He_]
   simp[upN,upB]
 |n+1,f,s,hn,hf,h=>by
   by_cases q:0<(A16.get a (15-n)).total
   . rw[upN,if_pos q] at hf ⊢
     rw[upB,if_pos q]
     obtain⟨g,rfl⟩:∃ g,f=g+1:=⟨f-1,by omega⟩
     have hle:=upN_le a n
     have e1:Z_ ⟨(numB 1 (15-n)++By_ (A16.get a (15-n)))++upB a n,0⟩ 1=(((15-n:Nat):Int),⟨By_ (A16.get a (15-n))++upB a n,0⟩):=by
       rw[List.append_assoc]
       exact Iv_ (by omega)
     obtain ⟨z,hz1,hz2⟩:=ups_fwd a ha n g ⟨s.next,s.bytes,s.rows,A16.set s.rises (A16.get a (15-n)) (15-n)⟩ (by omega) (by omega) (λi hi=>by
       show A16.get (A16.set s.rises (A16.get a (15-n)) (15-n)) i=_
       rw[A16.get_set _ _ _ _ (by omega) hi]
       by_cases q2:i=15-n
       . subst q2
         rw[if_pos rfl,if_pos (by omega)]
       . rw[if_neg (by omega),h i hi]
         by_cases q3:i<16-(n+1)
         . rw[if_pos q3,if_pos (by omega)]
         . rw[if_neg q3,if_neg (by omega)])
     refine⟨z,hz1,?_⟩
     rw[He_]
     have e:decide (0<((1+upN a n:Nat):Int))=true:=decide_eq_true (by omega)
     rw[e]
     simp only[decide_true,Bool.and_true,cond_true]
     rw[lt,e1,lt,rread_fwd (ha _ (by omega))]
     have e3:decide (16<=((15-n:Nat):Int))=false:=decide_eq_false (by omega)
     dsimp only
     rw[e3,cond_false]
     have hw:IntKind.wrap .u64 (((1+upN a n:Nat):Int)-1)=(upN a n:Int):=by
       rw[Ck_ (by omega) (by omega)];omega
     rw[hw]
     exact hz2
   . rw[upN,if_neg q,Nat.zero_add] at hf ⊢
     rw[upB,if_neg q,List.nil_append]
     refine ups_fwd a ha n f s (by omega) hf (λi hi=>?_)
     rw[h i hi]
     by_cases q2:i<16-(n+1)
     . rw[if_pos q2,if_pos (by omega)]
     . rw[if_neg q2]
       by_cases q3:i<16-n
       . rw[if_pos q3]
         have hi2:i=15-n:=by omega
         subst hi2
         obtain⟨h1,h2,_⟩:=ha (15-n) (by omega)
         generalize A16.get a (15-n)=w at q h1 h2
         obtain⟨t,l⟩:=w
         have ht:t=0:=by have :=h1.1;simp only at this q;omega
         subst ht
         have hl:l=[]:=List.length_eq_zero_iff.1 (by simp only at h2;omega)
         rw[hl]
       . rw[if_neg q3]
theorem a16_ext {α:Type} {a b:A16 α} (h:∀ i,i<16->A16.get a i=A16.get b i):a=b:=by
 have h0:=h 0 (by decide);have h1:=h 1 (by decide);have h2:=h 2 (by decide);have h3:=h 3 (by decide)
 have h4:=h 4 (by decide);have h5:=h 5 (by decide);have h6:=h 6 (by decide);have h7:=h 7 (by decide)
 have h8:=h 8 (by decide);have h9:=h 9 (by decide);have h10:=h 10 (by decide);have h11:=h 11 (by decide)
 have h12:=h 12 (by decide);have h13:=h 13 (by decide);have h14:=h 14 (by decide);have h15:=h 15 (by decide)
 obtain⟨a0,a1,a2,a3,a4,a5,a6,a7,a8,a9,a10,a11,a12,a13,a14,a15⟩:=a
 obtain⟨b0,b1,b2,b3,b4,b5,b6,b7,b8,b9,b10,b11,b12,b13,b14,b15⟩:=b
 have h0:a0=b0:=h0;have h1:a1=b1:=h1;have h2:a2=b2:=h2;have h3:a3=b3:=h3
 have h4:a4=b4:=h4;have h5:a5=b5:=h5;have h6:a6=b6:=h6;have h7:a7=b7:=h7
 have h8:a8=b8:=h8;have h9:a9=b9:=h9;have h10:a10=b10:=h10;have h11:a11=b11:=h11
 have h12:a12=b12:=h12;have h13:a13=b13:=h13;have h14:a14=b14:=h14;have h15:a15=b15:=h15
 subst h0 h1 h2 h3 h4 h5 h6 h7 h8 h9 h10 h11 h12 h13 h14 h15
 rfl
theorem new_rise (b n:Int):∀ i,i<16->A16.get (B4_ b n).rises i=⟨0,[]⟩:=λi hi=>by
 unfold B4_ A16.get
 repeat' split
 all_goals rfl
theorem kof_fwd {s:F_} {b:Int} (h:KF s) (hb:s.bytes=max 0 b) (hr:0<=Dt_ s):Hj_ (S_ s) b=(s,0):=by
 obtain⟨hs,hq,hn,hw,hi⟩:=h
 have h8:=hs.1.1
 have hup:=upN_le s.rises 16
 have e1:Z_ ⟨S_ s,0⟩ 8=(s.next,⟨numB 1 s.rows.length++(s.rows.flatMap rowB++(numB 1 (upN s.rises 16)++upB s.rises 16)),0⟩):=by
   rw[ke hs hq]
   exact H2_ hn.1 (by have :=hn.2;omega)
 have e2:Z_ ⟨numB 1 s.rows.length++(s.rows.flatMap rowB++(numB 1 (upN s.rises 16)++upB s.rises 16)),0⟩ 1=((s.rows.length:Int),⟨s.rows.flatMap rowB++(numB 1 (upN s.rises 16)++upB s.rises 16),0⟩):=Iv_ (by omega)
 have e3:Z_ ⟨numB 1 (upN s.rises 16)++upB s.rises 16,0⟩ 1=((upN s.rises 16:Int),⟨upB s.rises 16,0⟩):=Iv_ (by omega)
 unfold Hj_
 rw[lt,e1,lt,lt,e2]
 dsimp only
 have hf:=rows_fwd (S_ s) (numB 1 (upN s.rises 16)++upB s.rises 16) s.rows ((s.rows.length:Int).toNat+1) (B4_ s.next b) (by omega) (by show 0+s.rows.length<=8;omega) hw (show ((([]:List Gi_)++s.rows).map (λr:Gi_=>r.q.name)).Nodup from by simpa using hs.1.2.2)
 rw[hf,Fl_.eq_2]
 have c1:decide ((0:Int)<0)=false:=by decide
 rw[c1]
 simp only[Bool.false_and,cond_false]
 obtain ⟨z,hz1,hz2⟩:=ups_fwd s.rises hi 16 ((upN s.rises 16:Int).toNat+1) ⟨(B4_ s.next b).next,(B4_ s.next b).bytes,(B4_ s.next b).rows++s.rows,(B4_ s.next b).rises⟩ (by omega) (by omega) (λi hi2=>by
   show A16.get (B4_ s.next b).rises i=_
   rw[if_neg (by omega)]
   exact new_rise s.next b i hi2)
 rw[lt2,lt,e3]
 dsimp only
 rw[hz2]
 have hz:z=s.rises:=a16_ext hz1
 have hs2:(⟨(B4_ s.next b).next,(B4_ s.next b).bytes,(B4_ s.next b).rows++s.rows,z⟩:F_)=s:=by
   rw[hz,show (B4_ s.next b).next = s.next from rfl,show (B4_ s.next b).bytes=max 0 b from rfl,<- hb,show (B4_ s.next b).rows=[] from rfl]
   rfl
 dsimp only
 rw[hs2]
 have c2:decide (Wo_ ⟨[],0⟩=0)=true:=by decide
 have c3:decide (Dt_ s<0)=false:=decide_eq_false (by omega)
 rw[c2,c3]
 simp
def Wf (m:Mail):Prop:=(U64 m.id/\U64 m.due/\0<=m.hops/\m.hops<=255)/\∀ p∈m.head,p.wf
theorem wf_of {m:Mail} (h:MlF m):Wf m:=⟨⟨h.1.1,h.1.2.1,h.1.2.2.1.1,h.1.2.2.1.2⟩,h.2.1⟩
theorem mlf_of {m:Mail} (h:Wf m) (e:Gt_ m=0):MlF m:=by
 obtain⟨k1,k2,k3,k4,k5⟩:=Hs_ e
 have k6:=(Lp_ k3).1
 exact⟨⟨h.1.1,h.1.2.1,⟨h.1.2.2.1,h.1.2.2.2⟩,by omega,by omega,by omega,by omega⟩,h.2,e⟩
theorem u64_0:U64 0:=by constructor<;>decide
def LG (next most:Int) (l:List M_):Prop:=(l.length:Int)<=most/\∀ x∈l,ItF next x
def RG (next :Int) (r:Gi_):Prop:=U64 r.q.most/\U64 r.q.life/\LG next r.q.most r.l.items
def KG (k:F_):Prop:=U64 k.next /\ (∀ r∈k.rows,RG k.next r)/\∀ i,i<16->RiF (A16.get k.rises i)
theorem wf_0:Wf ⟨0,[],[],[],[],0,0⟩:=⟨⟨u64_0,u64_0,by simp,by simp⟩,λ_ h=>by cases h⟩
theorem lg_gt {n m:Int} {l:List M_} (h:LG n m l) {k:Nat} (hk:k<l.length):ItF n (gt l k):=h.2 _ (Ib_ hk)
theorem wf_gt {n m:Int} {l:List M_} (h:LG n m l) (k:Nat):Wf (gt l k).Ab_:=by
 by_cases q:k<l.length
 . exact wf_of (lg_gt h q).1
 . have :gt l k=default:=by unfold gt;rw[List.getD_eq_getElem?_getD,List.getElem?_eq_none (by omega)];rfl
   rw[this];exact wf_0
theorem Yz_ {n m:Int} {l:List M_} (h:LG n m l) (k:Nat) (a b:Bool):LG n m (l.set k ⟨(gt l k).Ab_,a,b⟩):=by
 refine⟨by rw[List.length_set];exact h.1,λx hx=>?_⟩
 by_cases q:k<l.length
 . rcases List.mem_or_eq_of_mem_set hx with e|e
   . exact h.2 x e
   . rw[e];exact lg_gt h q
 . rw[List.set_eq_of_length_le (by omega)] at hx;exact h.2 x hx
theorem lg_rem {n m:Int} {l:Ae_} (h:LG n m l.items) (id:Int):LG n m (An_ l id).1.items/\Wf (An_ l id).2.1.Ab_/\(0<=Bd_ l id->(An_ l id).1.items.length+1=l.items.length):=by
 have hb:-1<=Bd_ l id/\Bd_ l id<l.items.length:=H8_ _ _
 unfold An_ lt
 let Q:Ae_×M_×Int->Prop:=λr=>LG n m r.1.items/\Wf r.2.1.Ab_/\(0<=Bd_ l id->r.1.items.length+1=l.items.length)
 refine bt (P:=Q) (λe=>⟨h,wf_0,λq=>?_⟩) λe=>?_
 . simp only[decide_eq_true_eq] at e
   omega
 . simp only[decide_eq_false_iff_not] at e
   have hl:([l.items.take (Bd_ l id).toNat,l.items.drop (Bd_ l id+1).toNat].flatten).length+1=l.items.length:=by
     simp only[List.flatten_cons,List.flatten_nil,List.append_nil,List.length_append,List.length_take,List.length_drop]
     omega
   exact⟨⟨by have :=h.1;show ((([l.items.take (Bd_ l id).toNat,l.items.drop (Bd_ l id+1).toNat].flatten).length:Nat):Int)<=m;omega,λx hx=>h.2 x (Zc_ hx)⟩,wf_gt h _,λ_=>hl⟩
theorem wf_told {n m:Int} {l:Ae_} (h:LG n m l.items) (k:Int):Wf (C7_ l k).1:=by
 unfold C7_ lt
 let Q:Mail×Bool->Prop:=λr=>Wf r.1
 exact bt (P:=Q) (λ_=>wf_0) λ_=>wf_gt h _
theorem lg_lend {n m:Int} {l:Ae_} (h:LG n m l.items):LG n m (C6_ l).1.items:=by
 unfold C6_ lt
 let Q:Ae_×M_×Bool->Prop:=λr=>LG n m r.1.items
 exact bt (P:=Q) (λ_=>h) λ_=>Yz_ h _ _ _
theorem lg_back {n m:Int} {l:Ae_} (h:LG n m l.items) (id:Int):LG n m (Eg_ l id).1.items:=by
 unfold Eg_ lt
 let Q:Ae_×Int->Prop:=λr=>LG n m r.1.items
 exact bt (P:=Q) (λ_=>h) λ_=>bt (P:=Q) (λ_=>h) λ_=>Yz_ (Yz_ h _ _ _) _ _ _
theorem W1_ {n m:Int}:∀ (t:List M_) (k:Nat) (x:Ae_),LG n m x.items->LG n m (Ca_ t k x).items
 |[],_,_,h=>h
 |y::t,k,x,h=>by
   unfold Ca_
   let Q:Ae_->Prop:=λr=>LG n m r.items
   exact bt (P:=Q) (λ_=>W1_ t _ _ (Yz_ (Yz_ h _ _ _) _ _ _)) λ_=>W1_ t _ _ h
theorem first_of {l:Ae_} (h:(Cr_ l).2=true):0<=Bd_ l (Cr_ l).1.id:=by
 unfold Cr_ lt C7_ lt at h ⊢
 have hb:-1<=Ci_ l/\Ci_ l<l.items.length:=H8_ _ _
 cases e:decide (Ci_ l<0) with
 |true=>rw[e] at h;cases h
 |false=>
   rw[decide_eq_false_iff_not] at e
   simp only[cond_false]
   by_cases q:0<=Bd_ l (J_ (gt l.items (Ci_ l).toNat).Ab_).id
   . exact q
   . have h0:Bd_ l (J_ (gt l.items (Ci_ l).toNat).Ab_).id<0:=by omega
     have h1:=Pt_ (p:=λz_4:M_=>(M4_ z_4 (J_ (gt l.items (Ci_ l).toNat).Ab_).id)) (l:=l.items) h0
     have h2:=List.find?_eq_none.1 h1 _ (Ib_ (xs:=l.items) (k:=(Ci_ l).toNat) (by omega))
     exact (h2 (by simp[M4_,J_])).elim
theorem lg_add {n m:Int} {l:Ae_} {x:Mail} (h:LG n m l.items) (hl:(l.items.length:Int)<m) (hx:ItF n ⟨x,false,false⟩):LG n m (Ct_ l x).1.items:=by
 unfold Ct_ Ej_ lt
 let Q:Ae_×Int->Prop:=λr=>LG n m r.1.items
 refine bt (P:=Q) (λ_=>h) λ_=>?_
 refine⟨?_,λy hy=>?_⟩
 . show ((([l.items,[B6_ ⟨x,false,false⟩]].flatten).length:Nat):Int)<=m
   simp only[List.flatten_cons,List.flatten_nil,List.append_nil,List.length_append,List.length_cons,List.length_nil]
   omega
 . rcases N0_ hy with q|q
   . exact h.2 y q
   . rw[q];exact hx
theorem U5_ {k:F_} (h:KG k) {i:Nat} (hi:i<k.rows.length):RG k.next (gt k.rows i):=h.2.1 _ (Ib_ hi)
theorem S0_ {k:F_} (h:KG k) {i:Int} (hi:0<=i/\i<k.rows.length) {l:Ae_} (hl:LG k.next (gt k.rows i.toNat).q.most l.items):KG (Ac_ k i l):=by
 refine⟨h.1,λr hr=>?_,h.2.2⟩
 rcases List.mem_or_eq_of_mem_set hr with e|e
 . exact h.2.1 r e
 . rw[e]
   have :=U5_ h (i:=i.toNat) (by omega)
   exact⟨this.1,this.2.1,hl⟩
theorem itf_up {n:Int} {x:M_} (hu:U64 n) (hn:n≠0) (h:ItF n x):ItF (IntKind.wrap .u64 (n+1)) x:=by
 refine⟨h.1,?_⟩
 have h2:x.Ab_.id<n:=by rcases h.2 with q|q;exact (hn q).elim;exact q
 have h4:=hu.2
 by_cases q:n+1<=18446744073709551615
 . right
   rw[Ck_ (by have :=hu.1;omega) q];omega
 . left
   have :n=18446744073709551615:=by omega
   subst this;decide
theorem mailC_id (m:Mail) (a:Int):Gt_ ⟨a,m.Bb_,m.key,m.head,m.body,m.due,m.hops⟩=Gt_ m:=rfl
theorem kg_next {k:F_} (hn:k.next ≠ 0) (h:KG k) (hu:IntKind.wrap .u64 (k.next + 1)=IntKind.wrap .u64 (k.next + 1)):KG ⟨IntKind.wrap .u64 (k.next + 1),k.bytes,k.rows,k.rises⟩:=by
 refine⟨Hg_ _,λr hr=>?_,h.2.2⟩
 obtain⟨h1,h2,h3,h4⟩:=h.2.1 r hr
 exact⟨h1,h2,h3,λx hx=>itf_up h.1 hn (h4 x hx)⟩
theorem kg_put {k:F_} (h:KG k) (hn:k.next ≠ 0) {i:Int} (hi:0<=i/\i<k.rows.length) {l:Ae_} (hl:LG (IntKind.wrap .u64 (k.next + 1)) (gt k.rows i.toNat).q.most l.items):KG ⟨IntKind.wrap .u64 (k.next + 1),(Ac_ k i l).bytes,(Ac_ k i l).rows,(Ac_ k i l).rises⟩:=
 S0_ (k:=⟨IntKind.wrap .u64 (k.next + 1),k.bytes,k.rows,k.rises⟩) (kg_next hn h rfl) hi hl
theorem kg_wake0:∀ (t:List Gi_) (k:Nat) (x:F_),(∀ (j:Nat) (r:Gi_),t[j]? = some r->k+j<x.rows.length/\(gt x.rows (k+j)).q=r.q/\LG x.next r.q.most r.l.items)->KG x->KG (Bt_ t k x)
 |[],_,_,_,h=>h
 |y::t,k,x,ht,h=>by
   obtain⟨h1,h2,h3⟩:=ht 0 y rfl
   have hk:(((k:Nat):Int)).toNat=k:=by omega
   have hw:KG (Ac_ x (k:Int) (Eq_ y.l)):=S0_ h ⟨by omega,by omega⟩ (by rw[hk,show gt x.rows k=gt x.rows (k+0) from rfl,h2];exact W1_ _ _ _ h3)
   refine kg_wake0 t (k+1) _ (λj r hr=>?_) hw
   obtain⟨g1,g2,g3⟩:=ht (j+1) r hr
   have hlen:(Ac_ x (k:Int) (Eq_ y.l)).rows.length=x.rows.length:=Iw_ _ _ _
   refine⟨by rw[hlen];omega,?_,g3⟩
   rw[<- g2]
   show (gt (x.rows.set (((k:Nat):Int)).toNat ⟨(gt x.rows (((k:Nat):Int)).toNat).q,Eq_ y.l⟩) (k+1+j)).q=_
   rw[hk]
   have e:k+1+j=k+(j+1):=by omega
   rw[e]
   unfold gt
   rw[List.getD_eq_getElem?_getD,List.getElem?_set_ne (by omega),<- List.getD_eq_getElem?_getD]
theorem next_up {n:Int} (hu:U64 n):IntKind.wrap .u64 (n+1)=0\/n<IntKind.wrap .u64 (n+1):=by
 have h4:=hu.2
 by_cases q:n+1<=18446744073709551615
 . right
   rw[Ck_ (by have :=hu.1;omega) q];omega
 . left
   have :n=18446744073709551615:=by omega
   subst this;decide
theorem due_r (d t l:Int) (h:U64 d):U64 (Js_ d t l):=by
 unfold Js_
 have hw:=Hg_ (t+l)
 refine bt (P:=U64) (λ_=>h) λ_=>bt (P:=U64) (λ_=>hw) λ_=>?_
 obtain⟨h1,h2⟩:=h
 constructor<;>omega
theorem kg_late0 (t:Int):∀ (l:List Gi_) (n:Int),(∀ r∈l,RG n r)->Wf (Be_ t l).2.1
 |[],_,_=>wf_0
 |y::l,n,h=>by
   unfold Be_ lt
   let Q:Bs×Mail×Bool->Prop:=λr=>Wf r.2.1
   refine bt (P:=Q) (λ_=>?_) λ_=>kg_late0 t l n λr hr=>h r (by simp[hr])
   unfold Fn_ lt
   exact wf_told (h y (by simp)).2.2 _
theorem cloG:Clw U64 Wf KG NtF where
 kp:=λ{k n m} hk hm h=>by
   have ha:=at_b k n
   unfold Ay_ lt
   let Q:F_×Int×Mail×Int->Prop:=λr=>KG r.1/\Wf r.2.2.1
   refine bt (P:=Q) (λ_=>⟨h,wf_0⟩) λe1=>bt (P:=Q) (λ_=>⟨h,wf_0⟩) λe2=>bt (P:=Q) (λ_=>⟨h,wf_0⟩) λe3=>?_
   simp only[decide_eq_false_iff_not,Bool.not_eq_false',decide_eq_true_eq] at e1 e2 e3
   have hi:0<=I_ k n/\I_ k n<k.rows.length:=by omega
   obtain⟨r1,r2,r3⟩:=U5_ h (i:=(I_ k n).toNat) (by omega)
   have hln:LnOk (gt k.rows (I_ k n).toNat).l:=hk.1.2.1 _ (Ib_ (by omega))
   have h64:=hln.1
   have hw:IntKind.wrap .u64 (A8_ (gt k.rows (I_ k n).toNat).l)=((gt k.rows (I_ k n).toNat).l.items.length:Int):=Ck_ (show (0:Int)<=((gt k.rows (I_ k n).toNat).l.items.length:Int) by omega) (show ((gt k.rows (I_ k n).toNat).l.items.length:Int)<=_ by omega)
   obtain⟨row,hrow⟩:∃ row,gt k.rows (I_ k n).toNat=row:=⟨_,rfl⟩
   rw[hrow] at r1 r2 r3 hln h64 hw ⊢
   rw[hw]
   refine lp2E (P:=Q) (λq=>LG k.next row.q.most q.1.items/\(q.1.items.length:Int)<row.q.most/\Wf q.2) ?_ λx x1 hx=>?_
   . refine bt (P:=LoP _ _) (λc=>bt (P:=LoP _ _) (λ_=>⟨h,wf_0⟩) λc2=>?_) λc=>⟨r3,?_,wf_0⟩
     . simp only[Bool.not_eq_false'] at c2
       have hrm:=lg_rem r3 (Cr_ row.l).1.id
       have h3:=hrm.2.2 (first_of c2)
       refine⟨hrm.1,?_,?_⟩
       . have :=r3.1
         show ((An_ row.l (Cr_ row.l).1.id).1.items.length:Int)<row.q.most
         omega
       . show Wf (Cr_ row.l).1
         unfold Cr_ lt
         exact wf_told r3 _
     . simp only[decide_eq_false_iff_not] at c
       show (row.l.items.length:Int)<row.q.most
       omega
   . refine bt (P:=Q) (λ_=>⟨h,wf_0⟩) λ_=>bt (P:=Q) (λ_=>⟨h,wf_0⟩) λ_=>⟨?_,hx.2.2⟩
     have hm1:MlF ⟨k.next,m.Bb_,m.key,m.head,m.body,m.due,m.hops⟩:=mlf_of ⟨⟨h.1,hm.1.2.1,hm.1.2.2.1,hm.1.2.2.2⟩,hm.2⟩ (by rw[mailC_id];exact e2)
     refine kg_put h e3 hi ?_
     rw[hrow]
     exact lg_add ⟨hx.1.1,λy hy=>itf_up h.1 e3 (hx.1.2 y hy)⟩ hx.2.1 ⟨hm1,next_up h.1⟩
 kl:=λ{k n} h=>by
   have ha:=at_b k n
   unfold B5_ lt
   let Q:F_×M_×Bool->Prop:=λr=>KG r.1
   refine bt (P:=Q) (λ_=>h) λe=>?_
   simp only[decide_eq_false_iff_not] at e
   exact S0_ h (by omega) (lg_lend (U5_ h (by omega)).2.2)
 kr:=λ{k n i} h=>by
   have ha:=at_b k n
   unfold Ai_ lt
   let Q:F_×M_×Int->Prop:=λr=>KG r.1/\Wf r.2.1.Ab_
   refine bt (P:=Q) (λ_=>⟨h,wf_0⟩) λe=>?_
   simp only[decide_eq_false_iff_not] at e
   have hr:=lg_rem (U5_ h (i:=(I_ k n).toNat) (by omega)).2.2 i
   exact⟨S0_ h (by omega) hr.1,hr.2.1⟩
 kb:=λ{k n i} h=>by
   have ha:=at_b k n
   unfold Co_ lt
   let Q:F_×Int->Prop:=λr=>KG r.1
   refine bt (P:=Q) (λ_=>h) λe=>?_
   simp only[decide_eq_false_iff_not] at e
   exact S0_ h (by omega) (lg_back (U5_ h (by omega)).2.2 _)
 ks:=λ{k p m} hm h=>by
   unfold Bl_ lt
   let Q:F_×Int->Prop:=λr=>KG r.1
   refine bt (P:=Q) (λ_=>h) λe=>bt (P:=Q) (λ_=>h) λ_=>bt (P:=Q) (λ_=>h) λ_=>⟨h.1,h.2.1,λi hi=>?_⟩
   simp only[Bool.or_eq_false_iff,decide_eq_false_iff_not] at e
   show RiF (A16.get (A16.set k.rises (Cc_ (A16.get k.rises p.toNat) m).1 p.toNat) i)
   rw[A16.get_set _ _ _ _ (by omega) hi]
   split
   . exact rput_f (mlf_of hm) (h.2.2 _ (by omega))
   . exact h.2.2 i hi
 kw:=λ{k} _ h=>kg_wake0 _ _ _ (λj r hr=>by
   have hl:=(List.getElem?_eq_some_iff.1 hr).1
   have hg:gt k.rows j=r:=by unfold gt;rw[List.getD_eq_getElem?_getD,hr];rfl
   rw[Nat.zero_add]
   refine⟨hl,by rw[hg],?_⟩
   have :=U5_ h hl
   rw[hg] at this
   exact this.2.2) h
 kt:=λ{k t} h=>kg_late0 t _ _ h.2.1
 na:=λht hk h=>nadd_f ht hk h
 wd:=λh=>⟨⟨u64_0,due_r _ _ _ h.1.2.1,h.1.2.2⟩,h.2⟩
 wr:=λh=>⟨⟨u64_0,h.1.2⟩,h.2⟩
 wb:=λ{m s} h=>⟨⟨h.1.1,u64_0,wr_u8 _⟩,h.2⟩
 wp:=λ{m} h=>⟨⟨h.1.1,h.1.2.1,wr_u8 _⟩,h.2⟩
theorem doG {s:E_} {d:L_} (ht:U64 d.tick) (hc:0<=d.code/\d.code<=255) (h:StOk s) (h0:0<=d.Ab_.hops) (hm:Wf d.Ab_) (hqm:U64 d.queue.most) (hql:U64 d.queue.life) (hs:KG s.x.D_) (hn:NtF s.x.notes):KG (O_ s d).1.x.D_/\NtF (O_ s d).1.x.notes:=by
 rcases do_w cloG ht hc h h0 hm (⟨rfl,rfl,rfl,hs,hn,rfl,λ_=>id⟩:Kw U64 KG NtF s s) with e|(e|e)|e|e
 . rw[e];exact⟨hs,hn⟩
 . exact⟨e.k,e.n⟩
 . exact⟨e.k,e.n⟩
 . obtain⟨b,k,e2,e3,_⟩:=Xb_ s d
   rw[e,e2]
   refine⟨?_,hn⟩
   show KG k
   rcases e3 with rfl|rfl
   . unfold Ao_ lt
     let R:F_×Int->Prop:=λr=>KG r.1
     refine bt (P:=R) (λ_=>hs) λ_=>bt (P:=R) (λ_=>hs) λ_=>bt (P:=R) (λ_=>hs) λ_=>bt (P:=R) (λ_=>hs) λ_=>⟨hs.1,λr hr=>?_,hs.2.2⟩
     rcases N0_ hr with q|q
     . exact hs.2.1 r q
     . rw[q];exact⟨hqm,hql,hqm.1,λ_ h=>by cases h⟩
   . unfold A6_ lt
     let R:F_×Int->Prop:=λr=>KG r.1
     exact bt (P:=R) (λ_=>hs) λ_=>⟨hs.1,λr hr=>hs.2.1 r (Zc_ hr),hs.2.2⟩
 . obtain⟨b,e2,_⟩:=shops_x s d
   rw[e,e2];exact⟨hs,hn⟩
theorem newG {p:C_} {k:Int} (hb:U64 (Al_ p k).x.D_.next):KG (Al_ p k).x.D_/\NtF (Al_ p k).x.notes:=by
 refine⟨⟨hb,(λ_ h=>by cases h),λi hi=>?_⟩,ntf_nil⟩
 have :∀ i,i<16->A16.get (Al_ p k).x.D_.rises i=⟨0,[]⟩:=bw16 rfl rfl rfl rfl rfl rfl rfl rfl rfl rfl rfl rfl rfl rfl rfl rfl
 rw[this i hi];exact rif_nil
theorem kf_of {k:F_} (h:StkOk k) (hq:RoB k) (hg:KG k):KF k:=
 ⟨h,hq,hg.1,λr hr=>⟨h.1.2.1 r hr,hq r hr,(hg.2.1 r hr).1,(hg.2.1 r hr).2.1,(hg.2.1 r hr).2.2.1,(hg.2.1 r hr).2.2.2⟩,hg.2.2⟩
variable {P:Program} {n:Nat} {N:Rest} {H0:Env} {Q:Qs} {ks:List Kt} {fF:Nat->PV} {fL:Nat->Blk}
theorem junk_le {i o b T0:Nat} {cs:List PV} (hb:fL i = .box b T0 cs):StLe ⟨fF,fL⟩ ⟨fF,lups fL i (.box b T0 (cs.set o .junk))⟩:=by
 intro H0 F H L ha
 have hp:∀ {p v},SimT fL H p v->SimT (lups fL i (.box b T0 (cs.set o .junk))) H p v:=λ{p v} h=>by
   cases p with
   |osl q=>
     simp only[SimT] at h ⊢
     by_cases hq:q=i
     . subst hq;simp only[hb] at h
       simp only[lups,Nat.beq_refl,cond_true]
     . rw[Hd_ _ _ _ _ hq];exact h
   |_=>exact h
 refine⟨ha.le,ha.g,λt=>hp (ha.f t),λq=>?_⟩
 have hq:SimB fL H (fL q) (L q):=ha.l q
 by_cases e:q=i
 . subst e
   show SimB _ H (lups fL q _ q) (L q)
   rw[Ec_]
   rw[hb] at hq
   obtain⟨vs,h1,h2,h3⟩:=hq
   refine⟨vs,h1,by simp[h2],λm p v hm hv=>?_⟩
   rw[List.getElem?_set] at hm
   split at hm
   . split at hm
     . cases hm;exact Sim.junk
     . cases hm
   . exact hp (h3 m p v hm hv)
 . show SimB _ H (lups fL i _ q) (L q)
   rw[Hd_ _ _ _ _ e]
   have hq':SimB fL H (fL q) (L q):=hq
   generalize fL q=B at hq' ⊢
   cases B with
   |box b' T' cs'=>obtain⟨vs,h1,h2,h3⟩:=hq';exact⟨vs,h1,h2,λm p v hm hv=>hp (h3 m p v hm hv)⟩
   |_=>exact hq'
theorem bx_junk {i b T0:Nat} {cs:List PV} {c:Code} (o:Nat) (hb:fL i = .box b T0 cs) (kk:Hd P n N H0 Q (.code c) ks ⟨fF,lups fL i (.box b T0 (cs.set o .junk))⟩):Hd P n N H0 Q (.code c) ks ⟨fF,fL⟩:=
 SW.hd_le (junk_le hb) (λ_ h=>by cases h) kk
theorem rm2 {tb:Tb} {rs:List ResultVar} {res p1 p2:PV} {b b' T:Nat} {post q:List PV} {as0 bs:List Nat} (h:Id_ tb ⟨fF,fL⟩ rs=some ([p1,p2],as0,bs)) (he:as0=bs) (hp:PLe (.tup [p1,p2]) res) (hb:fL 0 = .box b' T q) (hbb:b'=b) (hn:Cs_ q=true) (hq:PLes q post):Hd P n N H0 (rmK tb rs res b T post) (.ex .ret) [] ⟨fF,fL⟩:=SW.rm h he hp hb hbb hn hq
end Go.SW.V
namespace Go.SW
structure RdR where
 p:Unit
 Hk_:List L_
deriving DecidableEq,Inhabited
def RdR.pc (x:RdR):List PV:=[.junk, .sl L_.pc x.Hk_]
end Go.SW
namespace Go.SW.V
open Go.SW
def Aj_ (r:RdR):List L_->E_->Ap_×Bool×RdR
 |[],x1=>lt (Af_ x1) λr4=>
 (r4.book,true,(⟨(),r.Hk_⟩:RdR))
 |x2::t,x1=>lt (Af_ x1) λr2=>
 lt (O_ x1 x2) λr3=>
 (bif ((!decide (r3.2.2=0))||(J5_ r2.book ((Af_ r3.1).book))) then
 ((⟨[],[]⟩:Ap_),false,(⟨(),r.Hk_⟩:RdR))
 else Aj_ r t r3.1)
def Bf_ (r:RdR):List Q_->E_->Ap_×Bool×RdR
 |[],x=>Aj_ r r.Hk_ x
 |x3::t1,x=>lt (O_ x (⟨2,0,(⟨[],0,[]⟩:W_),x3,(⟨[],[],false,[],[],false⟩:P_),[],0,0,0,0,0,(⟨0,[],[],[],[],0,0⟩:Mail),[]⟩:L_)) λr1=>
 Bf_ r t1 r1.1
def As_ (r:RdR) (s:E_) (queues:List Q_):Ap_×Bool×RdR:=
 Bf_ r queues s
def EqT (i:In) (m:Int) (r:Bs×In):Prop:=Y_ i m=r
def EqN (i:In) (m:Int) (r:Int×In):Prop:=Z_ i m=r
def EqR (i:In) (m:Int) (r:Bs×In):Prop:=Fp_ i m=r
def EqH (i:In) (r:List Pair×In):Prop:=Bw_ i=r
def EqO (i:In) (r:B7_×In):Prop:=Dy_ i=r
theorem book_ok1 (r:RdR):∀ (t:List L_) (s:E_),StOk s->StB s->(∀ d∈t,DdG d)->BkOk (Aj_ r t s).1/\BkB (Aj_ r t s).1
 |[],s,hs,hb,_=>⟨hs.1.1,hb.1⟩
 |d::t,s,hs,hb,hd=>by
   rw[Aj_]
   unfold lt
   let R:Ap_×Bool×RdR->Prop:=λy=>BkOk y.1/\BkB y.1
   obtain⟨h1,h2,h3,h4,h5,h6⟩:=hd d (by simp)
   refine bt (P:=R) (λ_=>⟨⟨by simp,by simp,λ_ h=>by cases h⟩,(λ_ h=>by cases h),λ_ h=>by cases h⟩) λ_=>?_
   exact book_ok1 r t _ (V5_ hs h1 h4) (doB ⟨h2,h3⟩ hs h4 h5 h6 hb) λy hy=>hd y (by simp[hy])
theorem book_ok0 (r:RdR):∀ (t:List Q_) (s:E_),StOk s->StB s->(∀ d∈r.Hk_,DdG d)->BkOk (Bf_ r t s).1/\BkB (Bf_ r t s).1
 |[],s,hs,hb,hd=>by rw[Bf_];exact book_ok1 r _ s hs hb hd
 |q::t,s,hs,hb,hd=>by
   rw[Bf_]
   unfold lt
   obtain⟨h1,h2,h3,h4,h5,h6⟩:=ddq q
   exact book_ok0 r t _ (V5_ hs h1 h4) (doB ⟨h2,h3⟩ hs h4 h5 h6 hb) hd
theorem book_ok (r:RdR) (s:E_) (queues:List Q_) (hs:StOk s) (hb:StB s) (hd:∀ d∈r.Hk_,DdG d):BkOk (As_ r s queues).1/\BkB (As_ r s queues).1:=book_ok0 r queues s hs hb hd
theorem nread_err {i:In} (h:(Dy_ i).2.err=0):i.err=0:=by
 unfold Dy_ lt lt1 at h
 have h1:=Bv_ (Z_ i 8).2 1
 have h2:=nread_e0 _ _ _ _ _ _ (by omega) (by omega) (by decide) (h1.2.2.2 (by decide)) h
 revert h2
 have h3:(Z_ (Z_ i 8).2 1).2.err=0->i.err=0:=λe=>(M0_ (M0_ e).1).1
 refine bt (P:=λj:In=>j.err=0->i.err=0) (λ_=>h3) λ_=>bt (P:=λj:In=>j.err=0->i.err=0) (λ_ e=>h3 (Ru_ e).1) λ_=>bt (P:=λj:In=>j.err=0->i.err=0) (λ_ e=>h3 (Ru_ e).1) λ_=>h3
theorem Vz_ {i j:In} {l:List L_} (h:DdsG i l) (he:j.err=0->i.err=0):DdsG j l:=λe=>h (he e)
theorem O4_ {i:In} {n:Int} {r:_} {l:List L_} (h:DdsG i l) (h1:Z_ i n=r):DdsG r.2 l:=Vz_ h λe=>by subst h1;exact (M0_ e).1
theorem dds_raw {i:In} {n:Int} {r:_} {l:List L_} (h:DdsG i l) (h1:Fp_ i n=r):DdsG r.2 l:=Vz_ h λe=>by subst h1;exact (Pw_ e).1
theorem dds_notes {i:In} {r:_} {l:List L_} (h:DdsG i l) (h1:Dy_ i=r):DdsG r.2 l:=Vz_ h λe=>by subst h1;exact nread_err e
theorem inEnd_e {i:In} (h:Wo_ i=0):i.err=0:=by
 unfold Wo_ at h
 split at h
 . omega
 . exact h
def PkOk (x:U_):Prop:=StkOk x.D_/\RoB x.D_/\x.notes.kept.length<=32/\NoB x.notes
theorem imOk_of {b:Ap_} {x:U_} {a:_} {c:_} (h:BkOk b/\BkB b) (k:PkOk x):ImOk ⟨b,x.D_,x.notes,a,c⟩:=⟨h.1,h.2,k⟩
theorem Tw_ {p:C_} {k:Int} (hp:PoOk p) (hk:0<=k/\k<p.places.length):(gt p.places k.toNat).bytes<=1000000:=by
 have h1:=hp.2.2.2.2.2.2 (gt p.places k.toNat) (Ib_ (by omega))
 omega
def D6_ (text:Bs) (p:C_) (place:Int) (deeds1:List L_) (r13:F_×Int):Nat->Int->Nat->In->U_->U_×Int
 |0,_,_,_,_=>default
 | f8+1,e_1,v1,x4,x5=>(bif decide ((v1:Int)<8) then
 lt (Z_ x4 8) λr16=>
 lt (Z_ r16.2 1) λr17=>
 (bif decide (16<((A8.get (A8.set x5.spent (⟨r16.1,r17.1⟩:Av_) v1) v1).count)) then
 D6_ text p place deeds1 r13 f8 4 (v1+1) r17.2 (⟨x5.book,x5.D_,x5.notes,x5.seen,(A8.set x5.spent (⟨r16.1,r17.1⟩:Av_) v1)⟩:U_)
 else D6_ text p place deeds1 r13 f8 e_1 (v1+1) r17.2 (⟨x5.book,x5.D_,x5.notes,x5.seen,(A8.set x5.spent (⟨r16.1,r17.1⟩:Av_) v1)⟩:U_))
 else (bif ((!decide ((Wo_ x4)=0))||(!decide (e_1=0))) then
 ((⟨(⟨[],[]⟩:Ap_),(⟨0,0,[],(⟨(⟨0,[]⟩:Bc_),(⟨0,[]⟩:Bc_),(⟨0,[]⟩:Bc_),(⟨0,[]⟩:Bc_),(⟨0,[]⟩:Bc_),(⟨0,[]⟩:Bc_),(⟨0,[]⟩:Bc_),(⟨0,[]⟩:Bc_),(⟨0,[]⟩:Bc_),(⟨0,[]⟩:Bc_),(⟨0,[]⟩:Bc_),(⟨0,[]⟩:Bc_),(⟨0,[]⟩:Bc_),(⟨0,[]⟩:Bc_),(⟨0,[]⟩:Bc_),(⟨0,[]⟩:Bc_)⟩:A16_RiseR)⟩:F_),(⟨0,[]⟩:B7_),(⟨0,0,0,0,0,0,0,0,0,0,0,0,0,0,0,0⟩:A16_u64),(⟨(⟨0,0⟩:Av_),(⟨0,0⟩:Av_),(⟨0,0⟩:Av_),(⟨0,0⟩:Av_),(⟨0,0⟩:Av_),(⟨0,0⟩:Av_),(⟨0,0⟩:Av_),(⟨0,0⟩:Av_)⟩:A8_SpentR)⟩:U_),4)
 else lt (Al_ p place) λr18=>
 lt (X_ (r13.1)) λr19=>
 lt (As_ (⟨(),deeds1⟩:RdR) r18 r19) λr20=>
 (bif ((!r20.2.1)||(!decide ((Cx_ (⟨(r20.1),x5.D_,x5.notes,x5.seen,x5.spent⟩:U_))=text))) then
 ((⟨(⟨[],[]⟩:Ap_),(⟨0,0,[],(⟨(⟨0,[]⟩:Bc_),(⟨0,[]⟩:Bc_),(⟨0,[]⟩:Bc_),(⟨0,[]⟩:Bc_),(⟨0,[]⟩:Bc_),(⟨0,[]⟩:Bc_),(⟨0,[]⟩:Bc_),(⟨0,[]⟩:Bc_),(⟨0,[]⟩:Bc_),(⟨0,[]⟩:Bc_),(⟨0,[]⟩:Bc_),(⟨0,[]⟩:Bc_),(⟨0,[]⟩:Bc_),(⟨0,[]⟩:Bc_),(⟨0,[]⟩:Bc_),(⟨0,[]⟩:Bc_)⟩:A16_RiseR)⟩:F_),(⟨0,[]⟩:B7_),(⟨0,0,0,0,0,0,0,0,0,0,0,0,0,0,0,0⟩:A16_u64),(⟨(⟨0,0⟩:Av_),(⟨0,0⟩:Av_),(⟨0,0⟩:Av_),(⟨0,0⟩:Av_),(⟨0,0⟩:Av_),(⟨0,0⟩:Av_),(⟨0,0⟩:Av_),(⟨0,0⟩:Av_)⟩:A8_SpentR)⟩:U_),4)
 else ((⟨(r20.1),x5.D_,x5.notes,x5.seen,x5.spent⟩:U_),0))))
def E5_ (text:Bs) (p:C_) (place:Int) (deeds1:List L_) (r13:F_×Int):Nat->Nat->In->U_->U_×Int
 |0,_,_,_=>default
 | f9+1,v,x2,x3=>(bif decide ((v:Int)<16) then
 lt (Z_ x2 8) λr15=>
 E5_ text p place deeds1 r13 f9 (v+1) r15.2 (⟨x3.book,x3.D_,x3.notes,(A16.set x3.seen r15.1 v),x3.spent⟩:U_)
 else D6_ text p place deeds1 r13 (8-0+1) r13.2 0 x2 x3)
def Db_ (text:Bs) (p:C_) (place:Int):Nat->Int->In->List L_->U_×Int
 |0,_,_,_=>default
 | f10+1,n1,x1,deeds1=>(bif ((decide (0<n1))&&(decide (x1.err=0))) then
 lt (Y_ x1 16) λr5=>
 lt (Y_ ((r5).2) 16) λr6=>
 lt (Z_ ((r6).2) 1) λr7=>
 lt (Y_ ((r7).2) 64) λr8=>
 lt (Bw_ r8.2) λr9=>
 lt (Z_ r9.2 1) λr10=>
 Db_ text p place f10 (IntKind.wrap .u64 (n1-1)) r10.2 (deeds1++[(⟨4,0,(⟨[],0,[]⟩:W_),(⟨[],0,0,[]⟩:Q_),(⟨(r5).1,(r6).1,decide (((r7).1)=1),r8.1,r9.1,decide (r10.1=1)⟩:P_),[],0,0,0,0,0,(⟨0,[],[],[],[],0,0⟩:Mail),[]⟩:L_)])
 else lt (Z_ x1 4) λr11=>
 lt (Fp_ ((r11).2) (IntKind.wrap .i64 ((r11).1))) λr12=>
 lt (Hj_ (r12.1) ((gt p.places ((place).toNat)).bytes)) λr13=>
 lt (Dy_ (r12.2)) λr14=>
 E5_ text p place deeds1 r13 (16-0+1) 0 (r14.2) (⟨(⟨[],[]⟩:Ap_),(r13.1),(r14.1),(⟨0,0,0,0,0,0,0,0,0,0,0,0,0,0,0,0⟩:A16_u64),(⟨(⟨0,0⟩:Av_),(⟨0,0⟩:Av_),(⟨0,0⟩:Av_),(⟨0,0⟩:Av_),(⟨0,0⟩:Av_),(⟨0,0⟩:Av_),(⟨0,0⟩:Av_),(⟨0,0⟩:Av_)⟩:A8_SpentR)⟩:U_))
def E4_ (text:Bs) (p:C_) (place:Int):Nat->Int->In->List L_->U_×Int
 |0,_,_,_=>default
 | f11+1,n,x,Hk_=>(bif ((decide (0<n))&&(decide (x.err=0))) then
 lt (Y_ x 16) λr1=>
 lt (Z_ ((r1).2) 1) λr2=>
 lt (Y_ ((r2).2) 16) λr3=>
 E4_ text p place f11 (IntKind.wrap .u64 (n-1)) r3.2 (Hk_++[(⟨0,0,(⟨(r1).1,(r2).1,r3.1⟩:W_),(⟨[],0,0,[]⟩:Q_),(⟨[],[],false,[],[],false⟩:P_),[],0,0,0,0,0,(⟨0,[],[],[],[],0,0⟩:Mail),[]⟩:L_)])
 else lt (Z_ x 1) λr4=>
 Db_ text p place ((r4.1).toNat+1) r4.1 r4.2 Hk_)
def Fy_ (text:Bs) (p:C_) (place:Int):U_×Int:=
 lt (Z_ (⟨text,0⟩) 1) λr=>
 E4_ text p place ((r.1).toNat+1) r.1 r.2 []
theorem im_st {s:E_} (h:StOk s) (k:StB s):ImOk (Af_ s):=⟨h.1.1,k.1,h.1.2.1,k.2.1,h.1.2.2.1,k.2.2⟩
theorem bit_n (b:Bool):(Fg_ b).toNat=bitM b:=by cases b<;>rfl
theorem ib0 (x:U_) (r1:List P_):∀ (t:List W_) (o:Out),(∀ s∈t,Kq_ s=0)->E1_ x r1 t o=Ef_ x r1 (B_ ⟨o.s++t.flatMap Q4_,o.err⟩ (r1.length:Int) 1)
 |[],o,_=>by rw[E1_];simp
 |y::t,o,h=>by
   have hy:=Q5_ (h y (by simp))
   rw[E1_,ib0 x r1 t _ (λz hz=>h z (by simp[hz])),Ch_ (s:=y.name) (by omega),Gu_ (n:=y.sort),Ch_ (s:=y.to') (by omega)]
   simp[Q4_,List.append_assoc]
theorem ib1 (x:U_):∀ (t:List P_) (o:Out),(∀ y∈t,BiB y)->Ef_ x t o=Ef_ x [] ⟨o.s++t.flatMap L5_,o.err⟩
 |[],o,_=>by simp
 |y::t,o,h=>by
   have hy:=bib_f (h y (by simp))
   rw[Ef_.eq_2,ib1 x t _ (λz hz=>h z (by simp[hz])),Ch_ (s:=y.Bb_) (by omega),Ch_ (s:=y.to') (by omega),Gu_ (n:=Fg_ y.up),Ch_ (s:=y.key) (by omega),Gu_ (n:=Fg_ y.all),bit_n,bit_n]
   simp[L5_,Aq_,List.append_assoc]
theorem nb_eq0:∀ (t:List D5_) (o:Out),(∀ y∈t,y.text.length<=64)->Bu_ t o=o.s++t.flatMap P9_
 |[],o,_=>by simp[Bu_]
 |y::t,o,h=>by
   have hy:=h y (by simp)
   rw[Bu_,nb_eq0 t _ (λz hz=>h z (by simp[hz])),Gu_,Ko_,Ch_ (by omega)]
   simp[P9_,List.append_assoc]
theorem nb_eq {n:B7_} (h:NoB n):De_ n=Lw_ n:=by
 unfold De_
 rw[nb_eq0 _ _ (λy hy=>(h y hy).1),Gu_,Ko_]
 simp[Lw_]
def Op_ (s:W_):L_:=(⟨0,0,s,(⟨[],0,0,[]⟩:Q_),(⟨[],[],false,[],[],false⟩:P_),[],0,0,0,0,0,(⟨0,[],[],[],[],0,0⟩:Mail),[]⟩:L_)
def Mb_ (b:P_):L_:=(⟨4,0,(⟨[],0,[]⟩:W_),(⟨[],0,0,[]⟩:Q_),b,[],0,0,0,0,0,(⟨0,[],[],[],[],0,0⟩:Mail),[]⟩:L_)
theorem irs_fwd (text:Bs) (p:C_) (k:Int) (rest:Bs) (t:List W_):∀ (f:Nat) (ds:List L_),t.length<f->t.length<=255->(∀ s∈t,Kq_ s=0/\0<=s.sort)->E4_ text p k f (t.length:Int) ⟨t.flatMap Q4_++rest,0⟩ ds=E4_ text p k 1 0 ⟨rest,0⟩ (ds++t.map Op_):=by
 induction t with
 |nil=>
   intro f ds hf _ _
   obtain⟨g,rfl⟩:∃ g,f=g+1:=⟨f-1,by omega⟩
   rw[E4_.eq_2,E4_.eq_2]
   have c:decide ((0:Int)<0)=false:=by decide
   have c0:(([]:List W_).length:Int)=0:=rfl
   rw[c0,c]
   simp
 |cons s t ih=>
   intro f ds hf hl h
   obtain⟨g,rfl⟩:∃ g,f=g+1:=⟨f-1,by omega⟩
   simp only[List.length_cons] at hf hl
   obtain⟨h1,h2⟩:=h s (by simp)
   have h3:=Q5_ h1
   have e1:Y_ ⟨(s::t).flatMap Q4_++rest,0⟩ 16=(s.name,⟨numB 1 s.sort.toNat++(txtB s.to'++(t.flatMap Q4_++rest)),0⟩):=by
     rw[List.flatMap_cons,Q4_]
     simp only[List.append_assoc]
     exact L8_ (by omega) (by omega)
   have e2:Z_ ⟨numB 1 s.sort.toNat++(txtB s.to'++(t.flatMap Q4_++rest)),0⟩ 1=(s.sort,⟨txtB s.to'++(t.flatMap Q4_++rest),0⟩):=K3_ h2 (by omega)
   have e3:Y_ ⟨txtB s.to'++(t.flatMap Q4_++rest),0⟩ 16=(s.to',⟨t.flatMap Q4_++rest,0⟩):=L8_ (by omega) (by omega)
   rw[E4_.eq_2]
   have e:decide (0<(((s::t).length:Nat):Int))=true:=decide_eq_true (by simp only[List.length_cons];omega)
   rw[e]
   simp only[decide_true,Bool.and_true,cond_true]
   rw[lt,e1,lt,e2,lt,e3]
   have hw:IntKind.wrap .u64 ((((s::t).length:Nat):Int)-1)=(t.length:Int):=by
     rw[Ck_ (by simp only[List.length_cons];omega) (by simp only[List.length_cons];omega)]
     simp only[List.length_cons];omega
   rw[hw]
   refine (ih g (ds++[Op_ s]) (by omega) (by omega) (λy hy=>h y (by simp[hy]))).trans ?_
   rw[List.map_cons,List.append_assoc,List.singleton_append]
theorem irb_step {text:Bs} {p:C_} {k n:Int} {f:Nat} {i:In} {ds:List L_} {r5 r6 r7 r8 r9 r10:_} (hn:0<n) (hi:i.err=0) (e5:Y_ i 16=r5) (e6:Y_ r5.2 16=r6) (e7:Z_ r6.2 1=r7) (e8:Y_ r7.2 64=r8) (e9:Bw_ r8.2=r9) (e10:Z_ r9.2 1=r10):Db_ text p k (f+1) n i ds=Db_ text p k f (IntKind.wrap .u64 (n-1)) r10.2 (ds++[Mb_ ⟨r5.1,r6.1,decide (r7.1=1),r8.1,r9.1,decide (r10.1=1)⟩]):=by
 rw[Db_.eq_2,decide_eq_true hn,decide_eq_true hi]
 simp only[Bool.and_true,cond_true]
 rw[lt,e5]
 rw[lt,e6]
 rw[lt,e7]
 rw[lt,e8]
 rw[lt,e9]
 rw[lt,e10]
 rfl
theorem bit_one (b:Bool):decide (((bitM b:Nat):Int)=1)=b:=by cases b<;>rfl
theorem irb_nil (text:Bs) (p:C_) (k:Int) (f g:Nat) (i:In) (ds:List L_):Db_ text p k (f+1) 0 i ds=Db_ text p k (g+1) 0 i ds:=by
 rw[Db_.eq_2,Db_.eq_2]
 have c:decide ((0:Int)<0)=false:=by decide
 rw[c,Bool.false_and,cond_false,cond_false]
theorem irb_fwd (text:Bs) (p:C_) (k:Int) (rest:Bs) (t:List P_):∀ (f:Nat) (ds:List L_),t.length<f->t.length<=255->(∀ y∈t,BiB y)->Db_ text p k f (t.length:Int) ⟨t.flatMap L5_++rest,0⟩ ds=Db_ text p k 1 0 ⟨rest,0⟩ (ds++t.map Mb_):=by
 induction t with
 |nil=>
   intro f ds hf _ _
   obtain⟨g,rfl⟩:∃ g,f=g+1:=⟨f-1,by omega⟩
   rw[List.map_nil,List.append_nil]
   exact irb_nil text p k g 0 _ ds
 |cons y t ih=>
   intro f ds hf hl h
   obtain⟨g,rfl⟩:∃ g,f=g+1:=⟨f-1,by omega⟩
   simp only[List.length_cons] at hf hl
   have hy:=h y (by simp)
   have h3:=bib_f hy
   have hb:∀ b:Bool,bitM b<=255:=λb=>by cases b<;>decide
   have e1:Y_ ⟨(y::t).flatMap L5_++rest,0⟩ 16=(y.Bb_,⟨txtB y.to'++(numB 1 (bitM y.up)++(txtB y.key++(Bi_ y.want++(numB 1 (bitM y.all)++(t.flatMap L5_++rest))))),0⟩):=by
     rw[List.flatMap_cons,L5_]
     simp only[List.append_assoc]
     exact L8_ (by omega) (by omega)
   have e2:Y_ ⟨txtB y.to'++(numB 1 (bitM y.up)++(txtB y.key++(Bi_ y.want++(numB 1 (bitM y.all)++(t.flatMap L5_++rest))))),0⟩ 16=(y.to',⟨numB 1 (bitM y.up)++(txtB y.key++(Bi_ y.want++(numB 1 (bitM y.all)++(t.flatMap L5_++rest)))),0⟩):=L8_ (by omega) (by omega)
   have e3:Z_ ⟨numB 1 (bitM y.up)++(txtB y.key++(Bi_ y.want++(numB 1 (bitM y.all)++(t.flatMap L5_++rest)))),0⟩ 1=(((bitM y.up:Nat):Int),⟨txtB y.key++(Bi_ y.want++(numB 1 (bitM y.all)++(t.flatMap L5_++rest))),0⟩):=Iv_ (hb _)
   have e4:Y_ ⟨txtB y.key++(Bi_ y.want++(numB 1 (bitM y.all)++(t.flatMap L5_++rest))),0⟩ 64=(y.key,⟨Bi_ y.want++(numB 1 (bitM y.all)++(t.flatMap L5_++rest)),0⟩):=L8_ (by omega) (by omega)
   have e5:Bw_ ⟨Bi_ y.want++(numB 1 (bitM y.all)++(t.flatMap L5_++rest)),0⟩=(y.want,⟨numB 1 (bitM y.all)++(t.flatMap L5_++rest),0⟩):=Rb_ hy.2.2.2.1 hy.2.2.2.2
   have e6:Z_ ⟨numB 1 (bitM y.all)++(t.flatMap L5_++rest),0⟩ 1=(((bitM y.all:Nat):Int),⟨t.flatMap L5_++rest,0⟩):=Iv_ (hb _)
   have hw:IntKind.wrap .u64 ((((y::t).length:Nat):Int)-1)=(t.length:Int):=by
     rw[Ck_ (by simp only[List.length_cons];omega) (by simp only[List.length_cons];omega)]
     simp only[List.length_cons];omega
   rw[irb_step (show (0:Int)<(((y::t).length:Nat):Int) by simp only[List.length_cons];omega) rfl e1 e2 e3 e4 e5 e6,hw]
   simp only[bit_one]
   refine (ih g (ds++[Mb_ y]) (by omega) (by omega) (λz hz=>h z (by simp[hz]))).trans ?_
   rw[List.map_cons,List.append_assoc,List.singleton_append]
def sB (a:A16_u64):Nat->Bs
 |0=>[]
 |n+1=>numB 8 (A16.get a (15-n)).toNat++sB a n
theorem is_eq (x:U_) (n:Nat):∀ (f:Nat) (o:Out),n<=16->n<f->∃ e,Hb_ x f (16-n) o=Gd_ x (8-0+1) 0 ⟨o.s++sB x.seen n,e⟩:=by
 induction n with
 |zero=>
   intro f o _ hf
   obtain⟨g,rfl⟩:∃ g,f=g+1:=⟨f-1,by omega⟩
   refine⟨o.err,?_⟩
   rw[Hb_]
   have e:decide (((16-0:Nat):Int)<16)=false:=by decide
   rw[e,cond_false]
   simp[sB]
 |succ n ih=>
   intro f o h hf
   obtain⟨g,rfl⟩:∃ g,f=g+1:=⟨f-1,by omega⟩
   have e:decide (((16-(n+1):Nat):Int)<16)=true:=decide_eq_true (by omega)
   have hv:16-(n+1)=15-n:=by omega
   have hv2:16-(n+1)+1=16-n:=by omega
   obtain⟨w,hw⟩:=ih g (B_ o (A16.get x.seen (15-n)) 8) (by omega) (by omega)
   refine⟨w,?_⟩
   rw[Hb_,e,cond_true,hv2,hv,hw,Ko_,sB]
   simp
theorem ird2_step {text:Bs} {p:C_} {k:Int} {ds:List L_} {q:F_×Int} {f v:Nat} {i:In} {x:U_} {r:Int×In} (hv:(v:Int)<16) (e:Z_ i 8=r):E5_ text p k ds q (f+1) v i x=E5_ text p k ds q f (v+1) r.2 ⟨x.book,x.D_,x.notes,A16.set x.seen r.1 v,x.spent⟩:=by
 rw[E5_,decide_eq_true hv,cond_true,lt,e]
theorem ird2_end {text:Bs} {p:C_} {k:Int} {ds:List L_} {q:F_×Int} {f v:Nat} {i:In} {x:U_} (hv:¬(v:Int)<16):E5_ text p k ds q (f+1) v i x=D6_ text p k ds q (8-0+1) q.2 0 i x:=by
 rw[E5_,decide_eq_false hv,cond_false]
theorem is_fwd (text:Bs) (p:C_) (k:Int) (ds:List L_) (q:F_×Int) (rest:Bs) (a:A16_u64) (ha:∀ i,i<16->U64 (A16.get a i)) (n:Nat):∀ (f:Nat) (x:U_),n<=16->n<f->(∀ i,i<16-n->A16.get x.seen i=A16.get a i)->E5_ text p k ds q f (16-n) ⟨sB a n++rest,0⟩ x=D6_ text p k ds q (8-0+1) q.2 0 ⟨rest,0⟩ ⟨x.book,x.D_,x.notes,a,x.spent⟩:=by
 induction n with
 |zero=>
   intro f x _ hf h
   obtain⟨g,rfl⟩:∃ g,f=g+1:=⟨f-1,by omega⟩
   rw[ird2_end (by omega)]
   have hs:x.seen=a:=a16_ext λi hi=>h i (by omega)
   obtain⟨x1,x2,x3,x4,x5⟩:=x
   have hs:x4=a:=hs
   subst hs
   rfl
 |succ n ih=>
   intro f x hn hf h
   obtain⟨g,rfl⟩:∃ g,f=g+1:=⟨f-1,by omega⟩
   have hu:=ha (15-n) (by omega)
   have e1:Z_ ⟨sB a (n+1)++rest,0⟩ 8=(A16.get a (15-n),⟨sB a n++rest,0⟩):=by
     rw[sB,List.append_assoc]
     exact H2_ hu.1 (by have :=hu.2;omega)
   have hv:16-(n+1)=15-n:=by omega
   have hv2:15-n+1=16-n:=by omega
   rw[hv,ird2_step (by omega) e1,hv2,ih g _ (by omega) (by omega)]
   intro i hi
   show A16.get (A16.set x.seen (A16.get a (15-n)) (15-n)) i=_
   rw[A16.get_set _ _ _ _ (by omega) (by omega)]
   by_cases q2:i=15-n
   . subst q2;rw[if_pos rfl]
   . rw[if_neg (by omega)]
     exact h i (by omega)
def pB (a:A8_SpentR):Nat->Bs
 |0=>[]
 |n+1=>numB 8 (A8.get a (7-n)).round.toNat++(numB 1 (IntKind.wrap .u64 (A8.get a (7-n)).count).toNat++pB a n)
theorem ip_eq (x:U_) (n:Nat):∀ (f:Nat) (o:Out),n<=8->n<f->Gd_ x f (8-n) o=o.s++pB x.spent n:=by
 induction n with
 |zero=>
   intro f o _ hf
   obtain⟨g,rfl⟩:∃ g,f=g+1:=⟨f-1,by omega⟩
   rw[Gd_]
   have e:decide (((8-0:Nat):Int)<8)=false:=by decide
   rw[e,cond_false]
   simp[pB]
 |succ n ih=>
   intro f o h hf
   obtain⟨g,rfl⟩:∃ g,f=g+1:=⟨f-1,by omega⟩
   have e:decide (((8-(n+1):Nat):Int)<8)=true:=decide_eq_true (by omega)
   have hv:8-(n+1)=7-n:=by omega
   have hv2:8-(n+1)+1=8-n:=by omega
   rw[Gd_,e,cond_true,hv2,hv,ih g _ (by omega) (by omega),Gu_,Ko_,pB]
   simp
theorem ird3_step {text:Bs} {p:C_} {k:Int} {ds:List L_} {q:F_×Int} {f v:Nat} {c:Int} {i:In} {x:U_} {r r2:Int×In} (hv:(v:Int)<8) (e:Z_ i 8=r) (e2:Z_ r.2 1=r2) (hc:r2.1<=16):D6_ text p k ds q (f+1) c v i x=D6_ text p k ds q f c (v+1) r2.2 ⟨x.book,x.D_,x.notes,x.seen,A8.set x.spent ⟨r.1,r2.1⟩ v⟩:=by
 rw[D6_,decide_eq_true hv,cond_true,lt,e,lt,e2]
 have hg:A8.get (A8.set x.spent (⟨r.1,r2.1⟩:Av_) v) v=⟨r.1,r2.1⟩:=by rw[A8.get_set _ _ _ _ (by omega) (by omega),if_pos rfl]
 rw[hg]
 have hd:decide (16<(⟨r.1,r2.1⟩:Av_).count)=false:=decide_eq_false (by show ¬16<r2.1;omega)
 rw[hd,cond_false]
theorem a8_ext {α:Type} {a b:A8 α} (h:∀ i,i<8->A8.get a i=A8.get b i):a=b:=by
 have h0:=h 0 (by decide);have h1:=h 1 (by decide);have h2:=h 2 (by decide);have h3:=h 3 (by decide)
 have h4:=h 4 (by decide);have h5:=h 5 (by decide);have h6:=h 6 (by decide);have h7:=h 7 (by decide)
 obtain⟨a0,a1,a2,a3,a4,a5,a6,a7⟩:=a
 obtain⟨b0,b1,b2,b3,b4,b5,b6,b7⟩:=b
 have h0:a0=b0:=h0;have h1:a1=b1:=h1;have h2:a2=b2:=h2;have h3:a3=b3:=h3
 have h4:a4=b4:=h4;have h5:a5=b5:=h5;have h6:a6=b6:=h6;have h7:a7=b7:=h7
 subst h0 h1 h2 h3 h4 h5 h6 h7
 rfl
theorem ip_fwd (text:Bs) (p:C_) (k:Int) (ds:List L_) (q:F_×Int) (c:Int) (rest:Bs) (a:A8_SpentR) (ha:∀ i,i<8->U64 (A8.get a i).round/\0<=(A8.get a i).count/\(A8.get a i).count<=16) (n:Nat):∀ (f:Nat) (x:U_),n<=8->(∀ i,i<8-n->A8.get x.spent i=A8.get a i)->D6_ text p k ds q (n+f) c (8-n) ⟨pB a n++rest,0⟩ x=D6_ text p k ds q f c 8 ⟨rest,0⟩ ⟨x.book,x.D_,x.notes,x.seen,a⟩:=by
 induction n with
 |zero=>
   intro f x _ h
   have hs:x.spent=a:=a8_ext λi hi=>h i (by omega)
   obtain⟨x1,x2,x3,x4,x5⟩:=x
   have hs:x5=a:=hs
   subst hs
   rw[Nat.zero_add]
   rfl
 |succ n ih=>
   intro f x hn h
   obtain⟨hu,h0,h16⟩:=ha (7-n) (by omega)
   have e1:Z_ ⟨pB a (n+1)++rest,0⟩ 8=((A8.get a (7-n)).round,⟨numB 1 (A8.get a (7-n)).count.toNat++(pB a n++rest),0⟩):=by
     rw[pB,Ck_ h0 (by omega)]
     simp only[List.append_assoc]
     exact H2_ hu.1 (by have :=hu.2;omega)
   have e2:Z_ ⟨numB 1 (A8.get a (7-n)).count.toNat++(pB a n++rest),0⟩ 1=((A8.get a (7-n)).count,⟨pB a n++rest,0⟩):=K3_ h0 (by omega)
   have hv:8-(n+1)=7-n:=by omega
   have hv2:7-n+1=8-n:=by omega
   have hf:n+1+f=(n+f)+1:=by omega
   rw[hv,hf,ird3_step (by omega) e1 e2 h16,hv2,ih f _ (by omega)]
   intro i hi
   show A8.get (A8.set x.spent (⟨(A8.get a (7-n)).round,(A8.get a (7-n)).count⟩:Av_) (7-n)) i=_
   rw[A8.get_set _ _ _ _ (by omega) (by omega)]
   by_cases q2:i=7-n
   . subst q2;rw[if_pos rfl]
   . rw[if_neg (by omega)]
     exact h i (by omega)
theorem ib_full {x:U_} (h:ImOk x):Cx_ x=bookB x.book++(numB 4 (S_ x.D_).length++(S_ x.D_++(Lw_ x.notes++(sB x.seen 16++pB x.spent 8)))):=by
 obtain⟨h1,h2,h3,h4,h5,h6⟩:=h
 unfold Cx_ lt
 rw[binds_id,Nd_]
 dsimp only
 rw[ib0 _ _ _ _ (λs hs=>(h2.1 s hs).1),Gu_,Gu_,ib1 _ _ _ h2.2,Ef_]
 unfold lt
 dsimp only
 obtain⟨w,e1⟩:=is_eq x 16 (16-0+1) (Aq_ (Aq_ (B_ ⟨([]++numB 1 (x.book.Ba_.length:Int).toNat++x.book.Ba_.flatMap Q4_++numB 1 (x.book.binds.length:Int).toNat)++x.book.binds.flatMap L5_,0⟩ ((S_ x.D_).length:Int) 4) (S_ x.D_)) (De_ x.notes)) (by omega) (by omega)
 refine e1.trans ?_
 refine (ip_eq x 8 (8-0+1) _ (by omega) (by omega)).trans ?_
 rw[outNum4,nb_eq h6]
 simp[Aq_,bookB,List.append_assoc]
theorem raw_fwd (s r:Bs):Fp_ ⟨s++r,0⟩ (s.length:Int)=(s,⟨r,0⟩):=by
 unfold Fp_
 simp
 by_cases q:s=[]
 . rw[if_pos q,q];rfl
 . rw[if_neg q,if_neg (by omega)]
theorem ird0_end {text:Bs} {p:C_} {k:Int} {f:Nat} {i:In} {ds:List L_} {r:Int×In} (e:Z_ i 1=r):E4_ text p k (f+1) 0 i ds=Db_ text p k (r.1.toNat+1) r.1 r.2 ds:=by
 rw[E4_.eq_2]
 have c:decide ((0:Int)<0)=false:=by decide
 rw[c,Bool.false_and,cond_false,lt,e]
theorem ird1_end {text:Bs} {p:C_} {k:Int} {f:Nat} {i:In} {ds:List L_} {r11 r12 r14:_} {r13:F_×Int} (e1:Z_ i 4=r11) (e2:Fp_ r11.2 (IntKind.wrap .i64 r11.1)=r12) (e3:Hj_ r12.1 ((gt p.places k.toNat).bytes)=r13) (e4:Dy_ r12.2=r14):∃ x:U_,x.D_=r13.1/\x.notes=r14.1/\Db_ text p k (f+1) 0 i ds=E5_ text p k ds r13 (16-0+1) 0 r14.2 x:=by
 rw[Db_.eq_2]
 have c:decide ((0:Int)<0)=false:=by decide
 rw[c,Bool.false_and,cond_false]
 rw[lt,e1]
 rw[lt,e2]
 rw[lt,e3]
 rw[lt,e4]
 exact⟨_,rfl,rfl,rfl⟩
def bkRd (x:U_):RdR:=⟨(),x.book.Ba_.map Op_++x.book.binds.map Mb_⟩
def PtF (p:C_) (k:Int) (x:U_):Prop:=ImOk x/\KF x.D_/\NtF x.notes/\x.D_.bytes=max 0 (gt p.places k.toNat).bytes/\0<=Dt_ x.D_/\(∀ i,i<16->U64 (A16.get x.seen i))/\∀ i,i<8->U64 (A8.get x.spent i).round/\0<=(A8.get x.spent i).count/\(A8.get x.spent i).count<=16
theorem ird3_end {text:Bs} {p:C_} {k:Int} {ds:List L_} {q:F_×Int} {f:Nat} {x:U_} {b:Ap_} {r:RdR} (hb:As_ ⟨(),ds⟩ (Al_ p k) (X_ q.1)=(b,true,r)) (ht:Cx_ ⟨b,x.D_,x.notes,x.seen,x.spent⟩=text):D6_ text p k ds q (f+1) 0 8 ⟨[],0⟩ x=(⟨b,x.D_,x.notes,x.seen,x.spent⟩,0):=by
 rw[D6_]
 have c:decide (((8:Nat):Int)<8)=false:=by decide
 have c1:decide (Wo_ ⟨[],0⟩=0)=true:=by decide
 have c2:decide ((0:Int)=0)=true:=by decide
 rw[c,cond_false,c1,c2,Bool.not_true,Bool.or_false,cond_false,lt,lt,lt,hb]
 dsimp only
 rw[decide_eq_true ht,Bool.not_true,Bool.or_false,cond_false]
theorem iread_fwd {x:U_} {p:C_} {k:Int} {r:RdR} (h:PtF p k x) (hb:As_ (bkRd x) (Al_ p k) (X_ x.D_)=(x.book,true,r)):Fy_ (Cx_ x) p k=(x,0):=by
 obtain⟨h1,h2,h3,h4,h5,h6,h7⟩:=h
 have hs:=h1.1.1
 have hbn:=h1.1.2.1
 have kl:=kb_len h1.2.2.1 h1.2.2.2.1
 obtain⟨text,htx⟩:∃ t,Cx_ x=t:=⟨_,rfl⟩
 have hfull:=ib_full h1
 rw[htx] at hfull ⊢
 unfold Fy_
 have e1:Z_ ⟨text,0⟩ 1=((x.book.Ba_.length:Int),⟨x.book.Ba_.flatMap Q4_++(numB 1 x.book.binds.length++(x.book.binds.flatMap L5_++(numB 4 (S_ x.D_).length++(S_ x.D_++(Lw_ x.notes++(sB x.seen 16++pB x.spent 8)))))),0⟩):=by
   rw[hfull,bookB]
   simp only[List.append_assoc]
   exact Iv_ (by omega)
 rw[lt,e1]
 dsimp only
 rw[irs_fwd text p k _ x.book.Ba_ _ [] (by omega) (by omega) h1.2.1.1]
 have e2:Z_ ⟨numB 1 x.book.binds.length++(x.book.binds.flatMap L5_++(numB 4 (S_ x.D_).length++(S_ x.D_++(Lw_ x.notes++(sB x.seen 16++pB x.spent 8))))),0⟩ 1=((x.book.binds.length:Int),⟨x.book.binds.flatMap L5_++(numB 4 (S_ x.D_).length++(S_ x.D_++(Lw_ x.notes++(sB x.seen 16++pB x.spent 8)))),0⟩):=Iv_ (by omega)
 rw[ird0_end e2]
 dsimp only
 rw[irb_fwd text p k _ x.book.binds _ _ (by omega) (by omega) h1.2.1.2]
 have e3:Z_ ⟨numB 4 (S_ x.D_).length++(S_ x.D_++(Lw_ x.notes++(sB x.seen 16++pB x.spent 8))),0⟩ 4=(((S_ x.D_).length:Int),⟨S_ x.D_++(Lw_ x.notes++(sB x.seen 16++pB x.spent 8)),0⟩):=by
   have :=inNum_fwd4 (r:=S_ x.D_++(Lw_ x.notes++(sB x.seen 16++pB x.spent 8))) (n:=((S_ x.D_).length:Int)) (by omega) (by omega)
   rwa [Int.toNat_natCast] at this
 have hw:IntKind.wrap .i64 ((S_ x.D_).length:Int)=((S_ x.D_).length:Int):=Ob_ ⟨by show (-9223372036854775808:Int)<=_;omega,by show _<=(9223372036854775807:Int);omega⟩
 have e4:Fp_ ⟨S_ x.D_++(Lw_ x.notes++(sB x.seen 16++pB x.spent 8)),0⟩ (IntKind.wrap .i64 ((S_ x.D_).length:Int))=(S_ x.D_,⟨Lw_ x.notes++(sB x.seen 16++pB x.spent 8),0⟩):=by rw[hw];exact raw_fwd _ _
 have e5:=kof_fwd h2 h4 h5
 have e6:=nread_fwd h3 (sB x.seen 16++pB x.spent 8)
 obtain⟨x0,hx1,hx2,hx3⟩:=ird1_end (text:=text) (p:=p) (k:=k) (f:=0) (ds:=[]++x.book.Ba_.map Op_++x.book.binds.map Mb_) e3 e4 e5 e6
 refine hx3.trans ?_
 refine (is_fwd text p k _ _ (pB x.spent 8) x.seen h6 16 (16-0+1) x0 (by omega) (by omega) (λi hi=>by omega)).trans ?_
 have hp:=ip_fwd text p k ([]++x.book.Ba_.map Op_++x.book.binds.map Mb_) (x.D_,0) 0 [] x.spent h7 8 1 ⟨x0.book,x0.D_,x0.notes,x.seen,x0.spent⟩ (by omega) (λi hi=>by omega)
 rw[List.append_nil] at hp
 refine hp.trans ?_
 have hst:x0.D_=x.D_:=hx1
 have hno:x0.notes=x.notes:=hx2
 have hxx:(⟨x.book,x0.D_,x0.notes,x.seen,x.spent⟩:U_)=x:=by rw[hst,hno]
 refine (ird3_end (b:=x.book) (r:=r) (x:=⟨x0.book,x0.D_,x0.notes,x.seen,x.spent⟩) (by rw[List.nil_append];exact hb) ?_).trans ?_
 . show Cx_ ⟨x.book,x0.D_,x0.notes,x.seen,x.spent⟩=text
   rw[hxx];exact htx
 . show ((⟨x.book,x0.D_,x0.notes,x.seen,x.spent⟩:U_),(0:Int))=(x,0)
   rw[hxx]
theorem shopOf_none {l:List W_} {n:Bs} (h:∀ s∈l,s.name≠n):Eo_ l n=none:=by
 unfold Eo_
 rw[List.find?_eq_none]
 intro s hs
 simpa using h s hs
theorem mk_fwd {b:Ap_} {x:W_} (h:Kq_ x=0) (hn:∀ s∈b.Ba_,s.name≠x.name) (hl:b.Ba_.length<8):Bz_ b x=(⟨b.Ba_++[x],b.binds⟩,0):=by
 unfold Bz_
 have e:decide (8<=(b.Ba_.length:Int))=false:=decide_eq_false (by omega)
 rw[h,shopOf_none hn,e]
 simp
theorem there_none {b:Ap_} {x:P_} (h:x∉b.binds):Bn_ b x<0:=by
 unfold Bn_
 by_cases q:0<=idxP (λz_4:P_=>decide (x=z_4)) b.binds
 . have h1:=Sz_ (p:=λz_4:P_=>decide (x=z_4)) q
   have h2:=H8_ (λz_4:P_=>decide (x=z_4)) b.binds
   rw[decide_eq_true_eq] at h1
   exact (h (h1 ▸ Ib_ (by omega))).elim
 . omega
theorem bd_fwd {b:Ap_} {x:P_} {s:W_} (hs:Eo_ b.Ba_ x.Bb_=some s) (hr:s.sort≠4) (hn:Ez_ x.to'=0) (he:Qh_ (Ji_ x s.sort)=0) (hx:x∉b.binds) (hl:b.binds.length<32):A4_ b x=(⟨b.Ba_,b.binds++[x]⟩,0):=by
 unfold A4_
 have e:decide (32<=(b.binds.length:Int))=false:=decide_eq_false (by omega)
 have e2:decide (0<=Bn_ b x)=false:=decide_eq_false (by have :=there_none hx;omega)
 have e3:decide (s.sort=4)=false:=decide_eq_false hr
 rw[hs]
 simp only[Option.isSome_some,Option.getD_some,Bool.not_true,cond_false]
 have e4:decide (Ez_ x.to'=0)=true:=decide_eq_true hn
 have e5:decide (Qh_ (Ji_ x s.sort)=0)=true:=decide_eq_true he
 rw[e3,e4,e5,lt,e2,e]
 simp
def QS (q0:List Q_) (k:F_):Prop:=k.rows.map (·.q)=q0
theorem T1_ {q0:List Q_} {k:F_} (h:QS q0 k) (i:Int) (l:Ae_):QS q0 (Ac_ k i l):=by
 unfold QS Ac_
 dsimp only
 by_cases q:i.toNat<k.rows.length
 . exact (Lv_ (λr:Gi_=>r.q) k.rows i.toNat (gt k.rows i.toNat) ⟨(gt k.rows i.toNat).q,l⟩ (getG q) rfl).trans h
 . rw[List.set_eq_of_length_le (by omega)];exact h
theorem qs_wake0 {q0:List Q_}:∀ (t:List Gi_) (k:Nat) (x:F_),QS q0 x->QS q0 (Bt_ t k x)
 |[],_,_,h=>h
 |_::t,k,_,h=>qs_wake0 t (k+1) _ (T1_ h _ _)
theorem cloQ (q0:List Q_):Clw U64 (λ_=>True) (QS q0) (λ_=>True) where
 kp:=λ{k n m} _ _ h=>by
   unfold Ay_ lt
   let Q:F_×Int×Mail×Int->Prop:=λr=>QS q0 r.1/\True
   refine bt (P:=Q) (λ_=>⟨h,trivial⟩) λ_=>bt (P:=Q) (λ_=>⟨h,trivial⟩) λ_=>bt (P:=Q) (λ_=>⟨h,trivial⟩) λ_=>?_
   refine lp2E (P:=Q) (λ_=>True) ?_ λx x1 _=>?_
   . exact bt (P:=LoP _ _) (λ_=>bt (P:=LoP _ _) (λ_=>⟨h,trivial⟩) λ_=>trivial) λ_=>trivial
   . exact bt (P:=Q) (λ_=>⟨h,trivial⟩) λ_=>bt (P:=Q) (λ_=>⟨h,trivial⟩) λ_=>⟨T1_ h _ _,trivial⟩
 kl:=λ{k n} h=>by
   unfold B5_ lt
   let Q:F_×M_×Bool->Prop:=λr=>QS q0 r.1
   exact bt (P:=Q) (λ_=>h) λ_=>T1_ h _ _
 kr:=λ{k n i} h=>by
   unfold Ai_ lt
   let Q:F_×M_×Int->Prop:=λr=>QS q0 r.1/\True
   exact bt (P:=Q) (λ_=>⟨h,trivial⟩) λ_=>⟨T1_ h _ _,trivial⟩
 kb:=λ{k n i} h=>by
   unfold Co_ lt
   let Q:F_×Int->Prop:=λr=>QS q0 r.1
   exact bt (P:=Q) (λ_=>h) λ_=>T1_ h _ _
 ks:=λ{k p m} _ h=>by
   unfold Bl_ lt
   let Q:F_×Int->Prop:=λr=>QS q0 r.1
   exact bt (P:=Q) (λ_=>h) λ_=>bt (P:=Q) (λ_=>h) λ_=>bt (P:=Q) (λ_=>h) λ_=>h
 kw:=λ{k} _ h=>qs_wake0 _ _ _ h
 kt:=λ{k t} _=>trivial
 na:=λ_ _ _=>trivial
 wd:=λh=>h
 wr:=λh=>h
 wb:=λ_=>trivial
 wp:=λ_=>trivial
theorem forget_eq (b:Ap_) (n:Bs):Dg_ b n=⟨b.Ba_,b.binds.filter λy=>Je_ y n⟩:=by
 unfold Dg_
 rw[lt,Ws_]
def BdG (p:C_) (a:Int) (qs:List Q_) (l:List W_) (y:P_):Prop:=
 (∃ s,Eo_ l y.Bb_=some s/\s.sort≠4/\Qh_ (Ji_ y s.sort)=0)/\Ez_ y.to'=0 /\
 (y.up=true->0<=T_ p y.to'/\Ed_ p a (T_ p y.to')=true)/\(y.up=false->∃ q∈qs,q.name=y.to')
def BkG (p:C_) (a:Int) (qs:List Q_) (b:Ap_):Prop:=
 (b.Ba_.map (·.name)).Nodup/\b.binds.Nodup/\(∀ s∈b.Ba_,Kq_ s=0/\(s.sort=4->0<=T_ p s.to'/\0<=Ak_ p a (T_ p s.to')))/\∀ y∈b.binds,BdG p a qs b.Ba_ y
theorem bkg_nil (p:C_) (a:Int) (qs:List Q_):BkG p a qs ⟨[],[]⟩:=⟨List.nodup_nil,List.nodup_nil,(λ_ h=>by cases h),λ_ h=>by cases h⟩
theorem bkg_forget {p:C_} {a:Int} {qs qs':List Q_} {b:Ap_} {n:Bs} (h:BkG p a qs b) (hq:∀ q∈qs,q.name≠n->q∈qs'):BkG p a qs' (Dg_ b n):=by
 rw[forget_eq]
 obtain⟨h1,h2,h3,h4⟩:=h
 refine⟨h1,h2.filter _,h3,λy hy=>?_⟩
 obtain⟨hy1,hy2⟩:=List.mem_filter.1 hy
 obtain⟨g1,g2,g3,g4⟩:=h4 y hy1
 refine⟨g1,g2,g3,λhu=>?_⟩
 obtain⟨q,hq1,hq2⟩:=g4 hu
 refine⟨q,hq q hq1 (λe=>?_),hq2⟩
 rw[Je_,hu,Bool.false_or,Bool.not_eq_true',decide_eq_false_iff_not] at hy2
 exact hy2 (hq2.symm.trans e)
theorem bkg_more {p:C_} {a:Int} {qs qs':List Q_} {b:Ap_} (h:BkG p a qs b) (hq:∀ q∈qs,q∈qs'):BkG p a qs' b:=
 ⟨h.1,h.2.1,h.2.2.1,λy hy=>by
   obtain⟨g1,g2,g3,g4⟩:=h.2.2.2 y hy
   refine⟨g1,g2,g3,λhu=>?_⟩
   obtain⟨q,hq1,hq2⟩:=g4 hu
   exact⟨q,hq q hq1,hq2⟩⟩
theorem shopOf_app {l:List W_} {x s:W_} {n:Bs} (h:Eo_ l n=some s):Eo_ (l++[x]) n=some s:=by
 unfold Eo_ at h ⊢
 rw[List.find?_append,h];rfl
theorem shopOf_nm {l:List W_} {n:Bs} (h:¬(Eo_ l n).isSome=true):∀ s∈l,s.name≠n:=by
 unfold Eo_ at h
 intro s hs e
 apply h
 rw[List.find?_isSome]
 exact⟨s,hs,by simpa using e⟩
theorem bkg_make {p:C_} {a:Int} {qs:List Q_} {b:Ap_} {x:W_} (h:BkG p a qs b) (hx:x.sort=4->0<=T_ p x.to'/\0<=Ak_ p a (T_ p x.to')):BkG p a qs (Bz_ b x).1:=by
 unfold Bz_
 let Q:Ap_×Int->Prop:=λr=>BkG p a qs r.1
 refine bt (P:=Q) (λ_=>h) λe1=>bt (P:=Q) (λ_=>h) λ_=>bt (P:=Q) (λ_=>h) λe3=>bt (P:=Q) (λ_=>h) λ_=>?_
 simp only[Bool.not_eq_false',decide_eq_true_eq] at e1
 have hn:=shopOf_nm (l:=b.Ba_) (n:=x.name) (by rw[e3];decide)
 obtain⟨h1,h2,h3,h4⟩:=h
 have hf:[b.Ba_,[x]].flatten=b.Ba_++[x]:=by simp
 refine⟨?_,h2,λs hs=>?_,λy hy=>?_⟩
 . show (([b.Ba_,[x]].flatten).map (·.name)).Nodup
   rw[hf,List.map_append,List.nodup_append]
   refine⟨h1,by simp,λu hu v hv=>?_⟩
   obtain⟨s,hs,rfl⟩:=List.mem_map.1 hu
   simp only[List.map_cons,List.map_nil,List.mem_singleton] at hv
   rw[hv]
   exact hn s hs
 . rcases N0_ hs with q|q
   . exact h3 s q
   . rw[q];exact⟨e1,hx⟩
 . obtain⟨⟨s,g1,g2,g3⟩,g4⟩:=h4 y hy
   refine⟨⟨s,?_,g2,g3⟩,g4⟩
   show Eo_ [b.Ba_,[x]].flatten y.Bb_=some s
   rw[hf];exact shopOf_app g1
theorem bkg_bind {p:C_} {a:Int} {qs:List Q_} {b:Ap_} {x:P_} (h:BkG p a qs b) (hu:x.up=true->0<=T_ p x.to'/\Ed_ p a (T_ p x.to')=true) (hq:x.up=false->∃ q∈qs,q.name=x.to'):BkG p a qs (A4_ b x).1:=by
 unfold A4_
 let Q:Ap_×Int->Prop:=λr=>BkG p a qs r.1
 refine bt (P:=Q) (λ_=>h) λe1=>bt (P:=Q) (λ_=>h) λe2=>bt (P:=Q) (λ_=>h) λe3=>bt (P:=Q) (λ_=>h) λe4=>?_
 unfold lt
 refine bt (P:=Q) (λ_=>h) λe5=>bt (P:=Q) (λ_=>h) λ_=>?_
 simp only[Bool.not_eq_false'] at e1
 simp only[decide_eq_false_iff_not] at e2 e5
 simp only[Bool.not_eq_false',decide_eq_true_eq] at e3 e4
 obtain⟨s,hs⟩:=Option.isSome_iff_exists.1 e1
 rw[hs] at e2 e4
 obtain⟨h1,h2,h3,h4⟩:=h
 have hf:[b.binds,[x]].flatten=b.binds++[x]:=by simp
 have hnot:x∉b.binds:=λhm=>by
   have hlt:Bn_ b x<0:=by omega
   unfold Bn_ at hlt
   have :=List.find?_eq_none.1 (Pt_ hlt) x hm
   simp at this
 refine⟨h1,?_,h3,λy hy=>?_⟩
 . show ([b.binds,[x]].flatten).Nodup
   rw[hf,List.nodup_append]
   refine⟨h2,by simp,λu hu v hv=>?_⟩
   simp only[List.mem_singleton] at hv
   rw[hv]
   intro e
   exact hnot (e ▸ hu)
 . rcases N0_ hy with q|q
   . exact h4 y q
   . rw[q]
     exact⟨⟨s,hs,e2,e4⟩,e3,hu,hq⟩
theorem bkg_unbind {p:C_} {a:Int} {qs:List Q_} {b:Ap_} {x:P_} (h:BkG p a qs b):BkG p a qs (C1_ b x).1:=by
 unfold C1_ lt
 let Q:Ap_×Int->Prop:=λr=>BkG p a qs r.1
 refine bt (P:=Q) (λ_=>h) λe=>?_
 simp only[decide_eq_false_iff_not] at e
 have hk:(Bn_ b x+1).toNat=(Bn_ b x).toNat+1:=by omega
 have hs:([b.binds.take (Bn_ b x).toNat,b.binds.drop (Bn_ b x+1).toNat].flatten).Sublist b.binds:=by rw[hk];exact Ql_ _ _
 exact⟨h.1,hs.nodup h.2.1,h.2.2.1,λy hy=>h.2.2.2 y (hs.subset hy)⟩
theorem shopOf_cut {l:List W_} {n m:Bs} {k:Nat} (hk:k<l.length) (hm:(gt l k).name=m) (hn:n≠m):Eo_ [l.take k,l.drop (k+1)].flatten n=Eo_ l n:=by
 have hg:l.drop k=gt l k::l.drop (k+1):=Gs_ hk
 have hl:l=l.take k++(gt l k::l.drop (k+1)):=by rw[<- hg,List.take_append_drop]
 have hf:[l.take k,l.drop (k+1)].flatten=l.take k++l.drop (k+1):=by simp
 rw[hf]
 conv=>rhs;rw[hl]
 unfold Eo_
 rw[List.find?_append,List.find?_append,List.find?_cons_of_neg]
 rw[decide_eq_true_eq,hm]
 exact λe=>hn e.symm
theorem bkg_drop {p:C_} {a:Int} {qs:List Q_} {b:Ap_} {n:Bs} (h:BkG p a qs b):BkG p a qs (Ds_ b n).1:=by
 have hb:=H8_ (λz_5:W_=>(Cu_ z_5 n)) b.Ba_
 unfold Ds_ lt
 let Q:Ap_×Int->Prop:=λr=>BkG p a qs r.1
 refine bt (P:=Q) (λ_=>h) λe=>?_
 simp only[decide_eq_false_iff_not] at e
 have hp:=Sz_ (p:=λz_5:W_=>(Cu_ z_5 n)) (l:=b.Ba_) (by omega)
 generalize idxP (λz_5:W_=>(Cu_ z_5 n)) b.Ba_=r at *
 have hk:(r+1).toNat=r.toNat+1:=by omega
 rw[hk,Ws_]
 have hs:=Ql_ b.Ba_ r.toNat
 have hnm:(gt b.Ba_ r.toNat).name=n:=by simpa [Cu_] using hp
 refine⟨(hs.map _).nodup h.1,h.2.1.filter _,λs hm=>h.2.2.1 s (hs.subset hm),λy hy=>?_⟩
 obtain⟨hy1,hy2⟩:=List.mem_filter.1 hy
 obtain⟨⟨s,g1,g2,g3⟩,g4⟩:=h.2.2.2 y hy1
 have hne:y.Bb_≠n:=by simpa [L9_] using hy2
 refine⟨⟨s,?_,g2,g3⟩,g4⟩
 show Eo_ [b.Ba_.take r.toNat,b.Ba_.drop (r.toNat+1)].flatten y.Bb_=some s
 rw[shopOf_cut (by omega) hnm hne]
 exact g1
def SbG (s:E_):Prop:=BkG s.K_ s.place (s.x.D_.rows.map (·.q)) s.x.book
theorem make_more (k:F_) (q:Q_):∀ x∈k.rows.map (·.q),x∈(Ao_ k q).1.rows.map (·.q):=by
 unfold Ao_ lt
 let R:F_×Int->Prop:=λr=>∀ x∈k.rows.map (·.q),x∈r.1.rows.map (·.q)
 refine bt (P:=R) (λ_ _ h=>h) λ_=>bt (P:=R) (λ_ _ h=>h) λ_=>bt (P:=R) (λ_ _ h=>h) λ_=>bt (P:=R) (λ_ _ h=>h) λ_=>λx hx=>?_
 show x∈([k.rows,[(⟨q,⟨[]⟩⟩:Gi_)]].flatten).map (·.q)
 simp only[List.flatten_cons,List.flatten_nil,List.append_nil,List.map_append,List.mem_append]
 exact .inl hx
theorem drop_more (k:F_) (n:Bs):∀ x∈k.rows.map (·.q),x.name≠n->x∈(A6_ k n).1.rows.map (·.q):=by
 have hb:=at_b k n
 unfold A6_ lt
 let R:F_×Int->Prop:=λr=>∀ x∈k.rows.map (·.q),x.name≠n->x∈r.1.rows.map (·.q)
 refine bt (P:=R) (λ_ _ h _=>h) λe=>λx hx hne=>?_
 simp only[decide_eq_false_iff_not] at e
 obtain⟨r,hr,rfl⟩:=List.mem_map.1 hx
 have hat:=at_n (s:=k) (n:=n) (by omega)
 refine List.mem_map.2 ⟨r,?_,rfl⟩
 show r∈[k.rows.take (I_ k n).toNat,k.rows.drop (I_ k n+1).toNat].flatten
 have hk:(I_ k n+1).toNat=(I_ k n).toNat+1:=by omega
 rw[hk]
 have hg:k.rows.drop (I_ k n).toNat=gt k.rows (I_ k n).toNat::k.rows.drop ((I_ k n).toNat+1):=Gs_ (by omega)
 have hl:k.rows=k.rows.take (I_ k n).toNat++(gt k.rows (I_ k n).toNat::k.rows.drop ((I_ k n).toNat+1)):=by rw[<- hg,List.take_append_drop]
 rw[hl] at hr
 simp only[List.flatten_cons,List.flatten_nil,List.append_nil]
 rcases List.mem_append.1 hr with q|q
 . exact List.mem_append.2 (.inl q)
 . rcases List.mem_cons.1 q with q|q
   . exact (hne (by rw[q];exact hat)).elim
   . exact List.mem_append.2 (.inr q)
theorem queue_in {k:F_} {n:Bs} (h:(Ah_ k n).2=true):∃ q∈k.rows.map (·.q),q.name=n:=by
 have hb:=at_b k n
 by_cases e:I_ k n<0
 . unfold Ah_ at h
   rw[lt,decide_eq_true e] at h
   cases h
 . have hat:=at_n (s:=k) (n:=n) (by omega)
   exact⟨_,List.mem_map.2 ⟨_,Ib_ (by omega),rfl⟩,hat⟩
theorem drop_same {k:F_} {n:Bs} (h:¬(A6_ k n).2=0):(A6_ k n).1=k:=by
 revert h
 unfold A6_ lt
 let R:F_×Int->Prop:=λr=>¬r.2=0->r.1=k
 exact bt (P:=R) (λ_ _=>rfl) λ_ h=>(h rfl).elim
theorem doBk {s:E_} {d:L_} (ht:U64 d.tick) (hc:0<=d.code/\d.code<=255) (h:StOk s) (h0:0<=d.Ab_.hops) (hs:SbG s):SbG (O_ s d).1:=by
 have key:∀ t:E_,Kw U64 (QS (s.x.D_.rows.map (·.q))) (λ_=>True) s t->SbG t:=λt e=>by
   have hk:t.x.D_.rows.map (·.q)=s.x.D_.rows.map (·.q):=e.k
   unfold SbG
   rw[e.po,e.pl,e.bo,hk]
   exact hs
 rcases do_w (cloQ (s.x.D_.rows.map (·.q))) ht hc h h0 trivial (⟨rfl,rfl,rfl,rfl,trivial,rfl,λ_=>id⟩:Kw U64 (QS (s.x.D_.rows.map (·.q))) (λ_=>True) s s) with e|(e|e)|e|e
 . rw[e];exact hs
 . exact key _ e
 . have hk:(O_ s d).1.x.D_.rows.map (·.q)=s.x.D_.rows.map (·.q):=e.k
   have h1:(O_ s d).1.K_=s.K_:=e.po
   have h2:(O_ s d).1.place=s.place:=e.pl
   have h3:(O_ s d).1.x.book=s.x.book:=e.bo
   unfold SbG
   rw[h1,h2,h3,hk]
   exact hs
 . rw[e]
   unfold A2_ lt
   let Q:E_×Int->Prop:=λr=>SbG r.1
   refine bt (P:=Q) (λ_=>bkg_more hs (make_more _ _)) λ_=>bt (P:=Q) (λ_=>bkg_forget hs (drop_more _ _)) λe2=>?_
   simp only[decide_eq_false_iff_not] at e2
   show BkG s.K_ s.place ((A6_ s.x.D_ d.name).1.rows.map (·.q)) s.x.book
   rw[drop_same e2];exact hs
 . rw[e]
   unfold Ax_ lt
   let Q:E_×Int->Prop:=λr=>SbG r.1
   have hn:∀ {e},Q (s,e):=hs
   refine bt (P:=Q) (λ_=>?_) λ_=>?_
   . refine lp0E (P:=Q) (λ_=>d.Bb_.sort=4->0<=T_ s.K_ d.Bb_.to'/\0<=Ak_ s.K_ s.place (T_ s.K_ d.Bb_.to')) ?_ λhx=>bkg_make hs hx
     refine bt (P:=LoP _ _) (λ_=>bt (P:=LoP _ _) (λ_=>hn) λc2=>bt (P:=LoP _ _) (λ_=>hn) λc3=>?_) λc=>?_
     . simp only[decide_eq_false_iff_not] at c2 c3
       exact λ_=>⟨by omega,by omega⟩
     . simp only[decide_eq_false_iff_not] at c
       exact λh4=>(c h4).elim
   . refine bt (P:=Q) (λ_=>bkg_drop hs) λ_=>bt (P:=Q) (λ_=>bkg_unbind hs) λ_=>?_
     refine lp0E (P:=Q) (λ_=>(d.bind.up=true->0<=T_ s.K_ d.bind.to'/\Ed_ s.K_ s.place (T_ s.K_ d.bind.to')=true)/\(d.bind.up=false->(Ah_ s.x.D_ d.bind.to').2=true)) ?_ λhx=>bkg_bind hs hx.1 λhu=>queue_in (hx.2 hu)
     unfold lt1
     refine bt (P:=LoP _ _) (λ_=>hn) λc=>bt (P:=LoP _ _) (λ_=>hn) λc2=>?_
     refine⟨λhu=>?_,λhu=>?_⟩
     . rw[hu] at c c2
       simp only[Bool.true_and,Bool.not_eq_false'] at c c2
       refine⟨?_,c2⟩
       by_cases q:T_ s.K_ d.bind.to'<0
       . rw[decide_eq_true q] at c;cases c
       . omega
     . rw[hu] at c
       simpa using c
theorem dshop_e {s:W_} (h:Kq_ s=0):F7_ (Op_ s)=0:=by
 have h3:=Q5_ h
 unfold Kq_ at h
 split at h
 . rename_i q;exact (q h).elim
 . rename_i q1
   split at h
   . cases h
   . have hm:Ks_ s.to'=0:=by
       unfold Ks_
       split at h
       . split<;>first|rfl|exact h
       . split at h
         . cases h
         . rename_i q3
           rw[if_pos (by simpa using q3)]
     have hn:Ez_ s.name=0:=by simpa using q1
     unfold F7_ Op_
     rw[if_neg (show ¬(12:Int)<0 by decide),if_neg (by simp[Hv_];exact⟨rfl,rfl,rfl⟩),if_pos rfl]
     simp[Jf_,If_,hn,hm,h3.2.2]
def Sp_ (q:Q_):L_:=(⟨2,0,(⟨[],0,[]⟩:W_),q,(⟨[],[],false,[],[],false⟩:P_),[],0,0,0,0,0,(⟨0,[],[],[],[],0,0⟩:Mail),[]⟩:L_)
theorem dqueue_e {q:Q_} (h:Bj_ q=0):F7_ (Sp_ q)=0:=by
 have hn:Ez_ q.name=0:=by
   by_cases e:Ez_ q.name=0
   . exact e
   . unfold Bj_ at h
     rw[decide_eq_false e] at h
     exact (e h).elim
 have hm:Ks_ q.dead=0:=by
   unfold Ks_
   by_cases e:q.dead=[]
   . rw[if_pos e]
   . rw[if_neg e]
     unfold Bj_ at h
     rw[decide_eq_true hn,decide_eq_false e] at h
     revert h
     cases ((decide (q.most<1))||(decide (64<q.most))) with
     |true=>intro h;cases h
     |false=>intro h;exact h
 unfold F7_ Sp_
 rw[if_neg (show ¬(12:Int)<2 by decide),if_neg (by simp[Hv_];exact⟨rfl,rfl,rfl⟩),if_neg (show ¬(2:Int)=0 by decide),if_pos rfl]
 simp[Jf_,hn,hm]
theorem dbind_e {y:P_} (hb:BiB y) (hs:Ez_ y.Bb_=0):F7_ (Mb_ y)=0:=by
 obtain⟨h1,h2,h3,h4,_⟩:=hb
 unfold F7_ Mb_
 rw[if_neg (show ¬(12:Int)<4 by decide),if_neg (by simp[Hv_];exact⟨rfl,rfl,rfl⟩),if_neg (show ¬(4:Int)=0 by decide),if_neg (show ¬(4:Int)=2 by decide),if_pos (.inl rfl)]
 simp[Jf_,If_,hs,h2,h4]
 omega
def iz:List M_->Int
 |[]=>0
 |x::l=>Ex_ x.Ab_+iz l
def rz:List Gi_->Int
 |[]=>0
 |x::l=>iz x.l.items+rz l
def uz (a:A16_RiseR):Nat->Int
 |0=>0
 |n+1=>Dl_ (A16.get a (15-n))+uz a n
theorem Y6_:∀ (t:List M_) (n:Int),B9_ t n=n+iz t
 |[],n=>by simp[B9_,iz]
 |x::t,n=>by
   unfold B9_ lt
   dsimp only
   rw[Y6_ t]
   simp only[iz];omega
theorem lsize_eq (l:Ae_):E2_ l=iz l.items:=by
 unfold E2_
 rw[Y6_];omega
theorem Yc_ (s:F_):∀ (f:Nat) (n:Int) (k:Nat),k<=16->k<f->C9_ s f n (16-k)=n+uz s.rises k
 |0,n,k,_,h=>by omega
 |f+1,n,0,_,_=>by
   unfold C9_
   simp[uz]
 |f+1,n,k+1,h1,h2=>by
   unfold C9_ lt
   rw[decide_eq_true (show ((16-(k+1):Nat):Int)<16 by omega),cond_true]
   have :=Yc_ s f (n+Dl_ (A16.get s.rises (16-(k+1)))) k (by omega) (by omega)
   dsimp only
   rw[show 16-(k+1)+1=16-k by omega,this]
   simp only[uz]
   rw[show 16-(k+1)=15-k by omega]
   omega
theorem Yb_ (s:F_):∀ (t:List Gi_) (n:Int),Bs_ s t n=n+rz t+uz s.rises 16
 |[],n=>by
   unfold Bs_
   have :=Yc_ s (16-0+1) n 16 (by omega) (by omega)
   rw[this];simp[rz]
 |x::t,n=>by
   unfold Bs_ lt
   dsimp only
   rw[Yb_ s t,lsize_eq]
   simp only[rz];omega
theorem Ww_ (s:F_):A0_ s=rz s.rows+uz s.rises 16:=by
 unfold A0_
 rw[Yb_];omega
theorem uz_far (a:A16_RiseR) (v:Bc_) (m:Nat) (hm:m<16):∀ k,k<=16->k<16-m->uz (A16.set a v m) k=uz a k
 |0,_,_=>rfl
 |k+1,h1,h2=>by
   simp only[uz]
   rw[uz_far a v m hm k (by omega) (by omega),A16.get_set _ _ _ _ hm (by omega),if_neg (by omega)]
theorem uz_set (a:A16_RiseR) (v:Bc_) (m:Nat) (hm:m<16):∀ k,k<=16->16-m<=k->uz (A16.set a v m) k=uz a k-Dl_ (A16.get a m)+Dl_ v
 |0,_,h=>by omega
 |k+1,h1,h2=>by
   simp only[uz]
   rw[A16.get_set _ _ _ _ hm (by omega)]
   by_cases q:15-k=m
   . subst q
     rw[if_pos rfl,uz_far a v (15-k) hm k (by omega) (by omega)];omega
   . rw[if_neg q,uz_set a v m hm k (by omega) (by omega)];omega
theorem U4_:∀ a b:List M_,iz (a++b)=iz a+iz b
 |[],b=>by simp[iz]
 |x::a,b=>by simp only[List.cons_append,iz,U4_ a b];omega
theorem rz_app:∀ a b:List Gi_,rz (a++b)=rz a+rz b
 |[],b=>by simp[rz]
 |x::a,b=>by simp only[List.cons_append,rz,rz_app a b];omega
theorem iz_nn:∀ l:List M_,0<=iz l
 |[]=>Int.le_refl _
 |x::l=>by
   have :=iz_nn l
   have :=(Ri_ x.Ab_).1
   simp only[iz];omega
theorem rz_set:∀ (l:List Gi_) (k:Nat) (x:Gi_),k<l.length->rz (l.set k x)=rz l-iz (gt l k).l.items+iz x.l.items
 |[],k,x,h=>by cases h
 |y::l,0,x,h=>by
   have e:gt (y::l) 0=y:=rfl
   simp only[List.set_cons_zero,rz,e];omega
 |y::l,k+1,x,h=>by
   have :=rz_set l k x (by simpa using h)
   have e:gt (y::l) (k+1)=gt l k:=by simp[gt]
   simp only[List.set_cons_succ,rz,e];omega
theorem rz_cut (l:List Gi_) (k:Nat):rz (l.take k++l.drop (k+1))<=rz l:=by
 conv=>rhs;rw[<- List.take_append_drop k l]
 rw[rz_app,rz_app]
 cases e:l.drop k with
 |nil=>
   have :l.drop (k+1)=[]:=by
     rw[List.drop_eq_nil_iff] at e ⊢;omega
   rw[this];omega
 |cons x t=>
   have :l.drop (k+1)=t:=by
     have :=congrArg (List.drop 1) e
     simpa [List.drop_drop,Nat.add_comm] using this
   rw[this]
   have :=iz_nn x.l.items
   simp only[rz];omega
theorem iz_set:∀ (l:List M_) (k:Nat) (x:M_),x.Ab_=(gt l k).Ab_->iz (l.set k x)=iz l
 |[],k,x,_=>rfl
 |y::l,0,x,h=>by
   have e:gt (y::l) 0=y:=rfl
   rw[e] at h
   simp only[List.set_cons_zero,iz,h]
 |y::l,k+1,x,h=>by
   have e:gt (y::l) (k+1)=gt l k:=by simp[gt]
   rw[e] at h
   simp only[List.set_cons_succ,iz,iz_set l k x h]
theorem iz_cut (l:List M_) (k:Nat):iz (l.take k++l.drop (k+1))<=iz l:=by
 conv=>rhs;rw[<- List.take_append_drop k l]
 rw[U4_,U4_]
 cases e:l.drop k with
 |nil=>
   have :l.drop (k+1)=[]:=by
     rw[List.drop_eq_nil_iff] at e ⊢;omega
   rw[this];omega
 |cons x t=>
   have :l.drop (k+1)=t:=by
     have :=congrArg (List.drop 1) e
     simpa [List.drop_drop,Nat.add_comm] using this
   rw[this]
   have :=(Ri_ x.Ab_).1
   simp only[iz];omega
theorem llend_iz (l:Ae_):iz (C6_ l).1.items=iz l.items:=by
 unfold C6_ lt
 let Q:Ae_×M_×Bool->Prop:=λr=>iz r.1.items=iz l.items
 exact bt (P:=Q) (λ_=>rfl) λ_=>iz_set _ _ _ rfl
theorem lrem_iz (l:Ae_) (id:Int):iz (An_ l id).1.items<=iz l.items:=by
 unfold An_ lt
 let Q:Ae_×M_×Int->Prop:=λr=>iz r.1.items<=iz l.items
 refine bt (P:=Q) (λ_=>Int.le_refl _) λe=>?_
 simp only[decide_eq_false_iff_not] at e
 have :(Bd_ l id+1).toNat=(Bd_ l id).toNat+1:=by omega
 show iz ([(l.items.take (Bd_ l id).toNat),(l.items.drop (Bd_ l id+1).toNat)].flatten)<=_
 rw[this]
 simp only[List.flatten_cons,List.flatten_nil,List.append_nil]
 exact iz_cut _ _
def KOk (b:Int) (k:F_):Prop:=k.bytes=b/\rz k.rows+uz k.rises 16<=b
theorem rz_set_le (l:List Gi_) (k:Nat) (x:Gi_) (h:iz x.l.items<=iz (gt l k).l.items):rz (l.set k x)<=rz l:=by
 by_cases q:k<l.length
 . rw[rz_set l k x q];omega
 . rw[List.set_eq_of_length_le (by omega)];exact Int.le_refl _
theorem Wy_ {b:Int} {s:F_} {k:Int} {l:Ae_} (h:KOk b s) (hl:iz l.items<=iz (gt s.rows k.toNat).l.items):KOk b (Ac_ s k l):=by
 refine⟨h.1,?_⟩
 have :=h.2
 have :=rz_set_le s.rows k.toNat ⟨(gt s.rows k.toNat).q,l⟩ hl
 show rz (s.rows.set _ _)+uz s.rises 16<=b
 omega
theorem kmake_k {b:Int} {s:F_} {q:Q_} (h:KOk b s):KOk b (Ao_ s q).1:=by
 unfold Ao_ lt
 let Q:F_×Int->Prop:=λr=>KOk b r.1
 refine bt (P:=Q) (λ_=>h) λ_=>bt (P:=Q) (λ_=>h) λ_=>bt (P:=Q) (λ_=>h) λ_=>bt (P:=Q) (λ_=>h) λ_=>⟨h.1,?_⟩
 show rz ([s.rows,[⟨q,⟨[]⟩⟩]].flatten)+_<=b
 simp only[List.flatten_cons,List.flatten_nil,List.append_nil,rz_app,rz,iz]
 have :=h.2
 show _+uz s.rises 16<=b
 omega
theorem kdrop_k {b:Int} {s:F_} {n:Bs} (h:KOk b s):KOk b (A6_ s n).1:=by
 unfold A6_ lt
 let Q:F_×Int->Prop:=λr=>KOk b r.1
 refine bt (P:=Q) (λ_=>h) λe=>⟨h.1,?_⟩
 simp only[decide_eq_false_iff_not] at e
 have e1:(I_ s n+1).toNat=(I_ s n).toNat+1:=by omega
 show rz ([(s.rows.take (I_ s n).toNat),(s.rows.drop (I_ s n+1).toNat)].flatten)+uz s.rises 16<=b
 rw[e1]
 simp only[List.flatten_cons,List.flatten_nil,List.append_nil]
 have :=rz_cut s.rows (I_ s n).toNat
 have :=h.2
 omega
theorem klend_k {b:Int} {s:F_} {n:Bs} (h:KOk b s):KOk b (B5_ s n).1:=by
 unfold B5_ lt
 let Q:F_×M_×Bool->Prop:=λr=>KOk b r.1
 exact bt (P:=Q) (λ_=>h) λ_=>Wy_ h (Int.le_of_eq (llend_iz _))
theorem krem_k {b:Int} {s:F_} {n:Bs} {id:Int} (h:KOk b s):KOk b (Ai_ s n id).1:=by
 unfold Ai_ lt
 let Q:F_×M_×Int->Prop:=λr=>KOk b r.1
 exact bt (P:=Q) (λ_=>h) λ_=>Wy_ h (lrem_iz _ _)
theorem iz_set2 (l:List M_) (k:Nat) (a b c d:Bool):iz ((l.set k ⟨(gt l k).Ab_,a,b⟩).set k ⟨(gt (l.set k ⟨(gt l k).Ab_,a,b⟩) k).Ab_,c,d⟩)=iz l:=
 (iz_set (l.set k ⟨(gt l k).Ab_,a,b⟩) k ⟨(gt (l.set k ⟨(gt l k).Ab_,a,b⟩) k).Ab_,c,d⟩ rfl).trans (iz_set l k ⟨(gt l k).Ab_,a,b⟩ rfl)
theorem lback_iz (l:Ae_) (id:Int):iz (Eg_ l id).1.items=iz l.items:=by
 unfold Eg_ lt
 let Q:Ae_×Int->Prop:=λr=>iz r.1.items=iz l.items
 refine bt (P:=Q) (λ_=>rfl) λ_=>bt (P:=Q) (λ_=>rfl) λ_=>?_
 exact iz_set2 _ _ _ _ _ _
theorem Tm_:∀ (t:List M_) (k:Nat) (x:Ae_),iz (Ca_ t k x).items=iz x.items
 |[],k,x=>rfl
 |y::t,k,x=>by
   unfold Ca_
   let Q:Ae_->Prop:=λr=>iz r.items=iz x.items
   exact bt (P:=Q) (λ_=>(Tm_ t _ _).trans (iz_set2 _ _ _ _ _ _)) λ_=>Tm_ t _ _
theorem lwake_iz (l:Ae_):iz (Eq_ l).items=iz l.items:=Tm_ _ _ _
theorem kback_k {b:Int} {s:F_} {n:Bs} {id:Int} (h:KOk b s):KOk b (Co_ s n id).1:=by
 unfold Co_ lt
 let Q:F_×Int->Prop:=λr=>KOk b r.1
 exact bt (P:=Q) (λ_=>h) λ_=>Wy_ h (Int.le_of_eq (lback_iz _ _))
theorem kraise_k {b:Int} {s:F_} {p:Int} {m:Mail} (h:KOk b s):KOk b (Bl_ s p m).1:=by
 unfold Bl_ lt
 let Q:F_×Int->Prop:=λr=>KOk b r.1
 refine bt (P:=Q) (λ_=>h) λe1=>?_
 simp only[Bool.or_eq_false_iff,decide_eq_false_iff_not] at e1
 refine bt (P:=Q) (λ_=>h) λ_=>bt (P:=Q) (λ_=>h) λe=>⟨h.1,?_⟩
 simp only[decide_eq_false_iff_not] at e
 rw[Ww_] at e
 have h1:=h.1
 show rz s.rows+uz (A16.set s.rises _ p.toNat) 16<=b
 rw[uz_set _ _ _ (by omega) 16 (by omega) (by omega)]
 omega
theorem kwake_k0 {b:Int}:∀ (t:List Gi_) (k:Nat) (x:F_),KOk b x->(∀ i,i<t.length->gt x.rows (k+i)=gt t i)->KOk b (Bt_ t k x)
 |[],k,x,h,_=>h
 |y::t,k,x,h,hr=>by
   unfold Bt_ lt
   have h0:gt x.rows k=y:=hr 0 (by simp)
   refine kwake_k0 t (k+1) _ (Wy_ h (by rw[lwake_iz];rw[Int.toNat_natCast,h0];exact Int.le_refl _)) λi hi=>?_
   show gt (x.rows.set ((k:Int)).toNat _) (k+1+i)=_
   rw[Int.toNat_natCast]
   have :gt (x.rows.set k ⟨(gt x.rows k).q,Eq_ y.l⟩) (k+1+i)=gt x.rows (k+1+i):=by
     simp only[gt,List.getD_eq_getElem?_getD]
     rw[List.getElem?_set_ne (by omega)]
   rw[this,show k+1+i=k+(i+1) by omega,hr (i+1) (by simp;omega)]
   simp[gt]
theorem kwake_k {b:Int} {s:F_} (h:KOk b s):KOk b (Ew_ s):=kwake_k0 s.rows 0 s h λi _=>by rw[Nat.zero_add]
theorem lrem_eq {l:Ae_} (h:LnOk l) {k:Nat} (hk:k<l.items.length):iz (An_ l (gt l.items k).Ab_.id).1.items+Ex_ (gt l.items k).Ab_=iz l.items:=by
 unfold An_ lt
 dsimp only
 rw[W6_ h hk]
 have e:decide ((k:Int)<0)=false:=by simp
 rw[e,cond_false]
 show iz ([(l.items.take ((k:Int)).toNat),(l.items.drop ((k:Int)+1).toNat)].flatten)+_=_
 rw[show ((k:Int)+1).toNat=k+1 by omega,Int.toNat_natCast]
 simp only[List.flatten_cons,List.flatten_nil,List.append_nil]
 conv=>rhs;rw[<- List.take_append_drop k l.items]
 rw[U4_,U4_]
 have e2:l.items.drop k=gt l.items k::l.items.drop (k+1):=by
   rw[List.drop_eq_getElem_cons hk]
   simp[gt,hk]
 rw[e2]
 simp only[iz];omega
theorem ladd_iz {l:Ae_} {m:Mail} (e:(Ct_ l m).2=0):iz (Ct_ l m).1.items=iz l.items+Ex_ m:=by
 revert e
 unfold Ct_ Ej_ lt
 dsimp only
 let Q:Ae_×Int->Prop:=λr=>r.2=0->iz r.1.items=iz l.items+Ex_ m
 refine bt (P:=Q) (λe h=>?_) λ_ _=>?_
 . simp only[Bool.not_eq_true',decide_eq_false_iff_not] at e
   exact (e h).elim
 . show iz ([l.items,[B6_ ⟨m,false,false⟩]].flatten)=_
   simp only[List.flatten_cons,List.flatten_nil,List.append_nil,U4_,iz]
   rw[show (B6_ ⟨m,false,false⟩).Ab_=m from rfl];omega
theorem zsize:Ex_ ⟨0,[],[],[],[],0,0⟩=0:=by decide +kernel
theorem kput_k {b:Int} {s:F_} {n:Bs} {m:Mail} (hs:StkOk s) (h:KOk b s):KOk b (Ay_ s n m).1:=by
 unfold Ay_ lt
 let Q:F_×Int×Mail×Int->Prop:=λr=>KOk b r.1
 refine bt (P:=Q) (λ_=>h) λe=>?_
 refine bt (P:=Q) (λ_=>h) λ_=>?_
 refine bt (P:=Q) (λ_=>h) λ_=>?_
 simp only[decide_eq_false_iff_not] at e
 have hb:=at_b s n
 obtain⟨k,hk⟩:∃ k:Nat,I_ s n=k:=⟨_,(Int.toNat_of_nonneg (by omega)).symm⟩
 rw[hk] at hb ⊢
 simp only[Int.toNat_natCast]
 have hl:LnOk (gt s.rows k).l:=RwsOk.at hs.1 (getG (by omega))
 refine lp2E (P:=Q) (λq=>iz q.1.items+Ex_ q.2=iz (gt s.rows k).l.items) ?_ λx x1 hx=>?_
 . refine bt (P:=LoP _ _) (λ_=>?_) λ_=>by show iz (gt s.rows k).l.items+Ex_ ⟨0,[],[],[],[],0,0⟩=_;rw[zsize];omega
   refine bt (P:=LoP _ _) (λ_=>h) λe2=>?_
   obtain⟨j,hj,he⟩:=Yy_ (l:=(gt s.rows k).l) (by simpa using e2)
   show iz _+Ex_ _=_
   rw[he]
   exact lrem_eq hl hj
 . refine bt (P:=Q) (λ_=>h) λe3=>bt (P:=Q) (λ_=>h) λe4=>⟨h.1,?_⟩
   simp only[decide_eq_false_iff_not] at e3
   have e4':(Ct_ x ⟨s.next,m.Bb_,m.key,m.head,m.body,m.due,m.hops⟩).2=0:=by simpa using e4
   have h4:=ladd_iz e4'
   unfold Dt_ at e3
   rw[Ww_] at e3
   have h1:=h.1
   have hx':iz x.items+Ex_ x1=iz (gt s.rows k).l.items:=hx
   show rz (s.rows.set ((k:Int)).toNat _)+uz s.rises 16<=b
   rw[Int.toNat_natCast,rz_set _ _ _ (by omega)]
   dsimp only
   omega
theorem cloK (b:Int):Clw U64 (λ_=>True) (KOk b) (λ_=>True) where
 kp:=λ{k n m} hs _ h=>⟨kput_k (n:=n) (m:=m) hs h,trivial⟩
 kl:=λ{k n} h=>klend_k (n:=n) h
 kr:=λ{k n i} h=>⟨krem_k (n:=n) (id:=i) h,trivial⟩
 kb:=λ{k n i} h=>kback_k (n:=n) (id:=i) h
 ks:=λ{k p m} _ h=>kraise_k (p:=p) (m:=m) h
 kw:=λ{k} _ h=>kwake_k h
 kt:=λ{k t} _=>trivial
 na:=λ_ _ _=>trivial
 wd:=λh=>h
 wr:=λh=>h
 wb:=λ_=>trivial
 wp:=λ_=>trivial
def Sn (a:A16_u64):Prop:=∀ i,i<16->U64 (A16.get a i)
theorem Sn.set {a:A16_u64} (h:Sn a) {x:Int} (hx:U64 x) (k:Nat):Sn (A16.set a x k):=by
 have key:∀ k,k<16->Sn (A16.set a x k):=λk hk i hi=>by
   rw[A16.get_set _ _ _ _ hk hi]
   by_cases q:i=k
   . rw[if_pos q];exact hx
   . rw[if_neg q];exact h i hi
 by_cases q:k<16
 . exact key k q
 . obtain⟨n,rfl⟩:∃ n,k=n+16:=⟨_,(Nat.sub_add_cancel (by omega)).symm⟩
   exact key 15 (by decide)
structure Rk (p:C_) (a b:Int) (s:E_):Prop where
 po:s.K_=p
 pl:s.place=a
 k:KOk b s.x.D_
 se:Sn s.x.seen
 sp:Sp s.x.spent
theorem doK {p:C_} {a b:Int} {s:E_} {d:L_} (ht:U64 d.tick) (hc:0<=d.code/\d.code<=255) (hn:U64 d.number) (h:StOk s) (h0:0<=d.Ab_.hops) (hs:Rk p a b s):Rk p a b (O_ s d).1:=by
 obtain⟨h1,h2,h3,h4,h5⟩:=hs
 rcases do_w (cloK b) ht hc h h0 trivial (⟨rfl,rfl,rfl,h3,trivial,rfl,λ_=>id⟩:Kw U64 (KOk b) (λ_=>True) s s) with e|(e|e)|e|e
 . rw[e];exact⟨h1,h2,h3,h4,h5⟩
 . exact⟨e.po.trans h1,e.pl.trans h2,e.k,by rw[e.se];exact h4,e.sp (λ_ h=>h) h5⟩
 . exact⟨e.po.trans h1,e.pl.trans h2,e.k,by rw[e.se];exact h4.set hn _,e.sp (λ_ h=>h) h5⟩
 . obtain⟨c,k,e2,e3,_⟩:=Xb_ s d
   rw[e,e2]
   refine⟨h1,h2,?_,h4,h5⟩
   show KOk b k
   rcases e3 with rfl|rfl
   . exact kmake_k h3
   . exact kdrop_k h3
 . obtain⟨c,e2,_⟩:=shops_x s d
   rw[e,e2]
   exact⟨h1,h2,h3,h4,h5⟩
theorem do_q {s:E_} {d:L_} (he:F7_ d=0) (hk:d.kind=2) (hz:(A2_ s d).2=0):(O_ s d).1=(A2_ s d).1/\(O_ s d).2.2=0:=by
 unfold O_
 have c:(!decide (F7_ d=0))=false:=by rw[decide_eq_true he];rfl
 rw[c,cond_false,hk]
 unfold lt3 lt1 lt
 have c1:decide ((2:Int)=2)=true:=rfl
 rw[c1]
 simp only[cond_true]
 have c2:(!decide ((A2_ s d).2=0))=false:=by rw[decide_eq_true hz];rfl
 rw[c2]
 exact⟨rfl,rfl⟩
theorem do_sh {s:E_} {d:L_} (he:F7_ d=0) (hk:d.kind=0\/d.kind=4) (hz:(Ax_ s d).2=0):(O_ s d).1=(Ax_ s d).1/\(O_ s d).2.2=0:=by
 unfold O_
 have c:(!decide (F7_ d=0))=false:=by rw[decide_eq_true he];rfl
 rw[c,cond_false]
 unfold lt3 lt1 lt
 have n:∀ k:Int,k≠0->k≠4 -> decide (d.kind=k)=false:=λk h0 h4=>decide_eq_false (by rcases hk with e|e<;>rw[e]<;>omega)
 rw[n 2 (by decide) (by decide),n 3 (by decide) (by decide),n 6 (by decide) (by decide),n 7 (by decide) (by decide),n 8 (by decide) (by decide),n 9 (by decide) (by decide),n 10 (by decide) (by decide),n 11 (by decide) (by decide),n 12 (by decide) (by decide)]
 simp only[cond_false]
 have c2:(!decide ((Ax_ s d).2=0))=false:=by rw[decide_eq_true hz];rfl
 rw[c2]
 exact⟨rfl,rfl⟩
theorem do_queue {s:E_} {q:Q_} (hc:Bj_ q=0) (hn:∀ r∈s.x.D_.rows,r.q.name≠q.name) (hl:s.x.D_.rows.length<8):(O_ s (Sp_ q)).1=⟨⟨s.x.book,⟨s.x.D_.next,s.x.D_.bytes,s.x.D_.rows++[⟨q,⟨[]⟩⟩],s.x.D_.rises⟩,s.x.notes,s.x.seen,s.x.spent⟩,s.K_,s.place⟩:=by
 have hm:=make_fwd hc hn hl
 have e:A2_ s (Sp_ q)=(⟨⟨s.x.book,⟨s.x.D_.next,s.x.D_.bytes,s.x.D_.rows++[⟨q,⟨[]⟩⟩],s.x.D_.rises⟩,s.x.notes,s.x.seen,s.x.spent⟩,s.K_,s.place⟩,0):=by
   unfold A2_
   have c1:decide ((Sp_ q).kind=2)=true:=rfl
   rw[c1,cond_true,lt,show (Sp_ q).queue=q from rfl,hm]
 rw[(do_q (dqueue_e hc) rfl (by rw[e])).1,e]
theorem do_shop {s:E_} {x:W_} (h:Kq_ x=0) (hx:x.sort=4->0<=T_ s.K_ x.to'/\0<=Ak_ s.K_ s.place (T_ s.K_ x.to')) (hn:∀ y∈s.x.book.Ba_,y.name≠x.name) (hl:s.x.book.Ba_.length<8):(O_ s (Op_ x)).1=⟨⟨⟨s.x.book.Ba_++[x],s.x.book.binds⟩,s.x.D_,s.x.notes,s.x.seen,s.x.spent⟩,s.K_,s.place⟩/\(O_ s (Op_ x)).2.2=0:=by
 have hm:=mk_fwd h hn hl
 have e:Ax_ s (Op_ x)=(⟨⟨⟨s.x.book.Ba_++[x],s.x.book.binds⟩,s.x.D_,s.x.notes,s.x.seen,s.x.spent⟩,s.K_,s.place⟩,0):=by
   unfold Ax_
   have c1:decide ((Op_ x).kind=0)=true:=rfl
   have c2:(Op_ x).Bb_=x:=rfl
   rw[c1,cond_true,c2]
   unfold lt
   dsimp only
   by_cases q:x.sort=4
   . obtain⟨h1,h2⟩:=hx q
     rw[decide_eq_true q,cond_true,decide_eq_false (show ¬T_ s.K_ x.to'<0 by omega),cond_false,decide_eq_false (show ¬Ak_ s.K_ s.place (T_ s.K_ x.to')<0 by omega),cond_false]
     show (_,_)=_
     rw[hm]
   . rw[decide_eq_false q,cond_false]
     show (_,_)=_
     rw[hm]
 have hd:=do_sh (s:=s) (dshop_e h) (.inl rfl) (by rw[e])
 rw[e] at hd
 exact hd
theorem do_bind {s:E_} {y:P_} (hb:BiB y) (hd:BdG s.K_ s.place (s.x.D_.rows.map (·.q)) s.x.book.Ba_ y) (hs:Ez_ y.Bb_=0) (hq:y.up=false->(Ah_ s.x.D_ y.to').2=true) (hx:y∉s.x.book.binds) (hl:s.x.book.binds.length<32):(O_ s (Mb_ y)).1=⟨⟨⟨s.x.book.Ba_,s.x.book.binds++[y]⟩,s.x.D_,s.x.notes,s.x.seen,s.x.spent⟩,s.K_,s.place⟩/\(O_ s (Mb_ y)).2.2=0:=by
 obtain⟨⟨sh,g1,g2,g3⟩,g4,g5,_⟩:=hd
 have hm:=bd_fwd g1 g2 g4 g3 hx hl
 have e:Ax_ s (Mb_ y)=(⟨⟨⟨s.x.book.Ba_,s.x.book.binds++[y]⟩,s.x.D_,s.x.notes,s.x.seen,s.x.spent⟩,s.K_,s.place⟩,0):=by
   unfold Ax_
   have c1:decide ((Mb_ y).kind=0)=false:=rfl
   have c2:decide ((Mb_ y).kind=1)=false:=rfl
   have c3:decide ((Mb_ y).kind=5)=false:=rfl
   have c4:(Mb_ y).bind=y:=rfl
   rw[c1,cond_false,c2,cond_false,c3,cond_false,c4]
   unfold lt lt1
   dsimp only
   cases hu:y.up with
   |true=>
     obtain⟨h1,h2⟩:=g5 hu
     rw[decide_eq_false (show ¬T_ s.K_ y.to'<0 by omega),h2]
     simp only[Bool.true_and,Bool.not_true,Bool.false_and,cond_false]
     show (_,_)=_
     rw[hm]
   |false=>
     rw[hq hu]
     simp only[Bool.false_and,Bool.not_false,Bool.true_and,Bool.not_true,cond_false]
     show (_,_)=_
     rw[hm]
 have hd:=do_sh (s:=s) (dbind_e hb hs) (.inr rfl) (by rw[e])
 rw[e] at hd
 exact hd
end Go.SW.V
