/-
  A part of the proof of ImageGoes: What functions answer, printed by program out of their walks: stairwelllaw23.awake, stairwelllaw23.pipes.
-/
import Derived.Test.YteppialeoliobaaGreatDoorImageGoesP3
import Derived.Lib.ItoaLen
import Derived.Lib.Join
import Derived.Lib.LaidTab
import Derived.KernelRfl
import Derived.Shelf.LaysM
import Derived.Shelf.Strings.OnBuilder
import Derived.Shelf.Strconv.Itoa3
import Derived.Lib.AppendIntMem
import Derived.Lib.Walk
import Derived.WalkKit
import Derived.BigCall
import Derived.BigGuard
import Derived.Test.YteppialeoliobaaGreatDoorProg
import Derived.Shelf.Strings.FieldsFuncAny
import Derived.Shelf.Pu.ParseUintPublic10
import Derived.Lib.SmallJoins
import Derived.Shelf.Strings.Split
set_option linter.unusedVariables false
set_option linter.unusedSimpArgs false
set_option maxRecDepth 100000
set_option maxHeartbeats 4000000
open Go.Proofs.Tryz
namespace Go.SW.V
open Go.SW
def K2_:Nat->Nat->C_->Bool
 |0,_,_=>default
 | f2+1,v,x=>(bif decide ((v:Int)<([(⟨0,0,(⟨[97],1,[]⟩:W_),(⟨[],0,0,[]⟩:U_),(⟨[],[],false,[],[],false⟩:Q_),[],0,0,0,0,0,(⟨0,[],[],[],[],0,0⟩:Mail),[]⟩:O_),(⟨2,0,(⟨[],0,[]⟩:W_),(⟨[113],4,0,[]⟩:U_),(⟨[],[],false,[],[],false⟩:Q_),[],0,0,0,0,0,(⟨0,[],[],[],[],0,0⟩:Mail),[]⟩:O_),(⟨4,0,(⟨[],0,[]⟩:W_),(⟨[],0,0,[]⟩:U_),(⟨[97],[113],false,[],[],false⟩:Q_),[],0,0,0,0,0,(⟨0,[],[],[],[],0,0⟩:Mail),[]⟩:O_)].length:Int)) then
 lt (P_ x (gt [(⟨0,0,(⟨[97],1,[]⟩:W_),(⟨[],0,0,[]⟩:U_),(⟨[],[],false,[],[],false⟩:Q_),[],0,0,0,0,0,(⟨0,[],[],[],[],0,0⟩:Mail),[]⟩:O_),(⟨2,0,(⟨[],0,[]⟩:W_),(⟨[113],4,0,[]⟩:U_),(⟨[],[],false,[],[],false⟩:Q_),[],0,0,0,0,0,(⟨0,[],[],[],[],0,0⟩:Mail),[]⟩:O_),(⟨4,0,(⟨[],0,[]⟩:W_),(⟨[],0,0,[]⟩:U_),(⟨[97],[113],false,[],[],false⟩:Q_),[],0,0,0,0,0,(⟨0,[],[],[],[],0,0⟩:Mail),[]⟩:O_)] v)) λr1=>
 (bif !decide (r1.2.2=0) then
 false
 else K2_ f2 (v+1) r1.1)
 else lt (P_ x (⟨6,0,(⟨[],0,[]⟩:W_),(⟨[],0,0,[]⟩:U_),(⟨[],[],false,[],[],false⟩:Q_),[],0,0,0,0,0,(⟨0,[97],[],[],[120],0,0⟩:Mail),[]⟩:O_)) λr2=>
 lt (P_ r2.1 (⟨7,0,(⟨[],0,[]⟩:W_),(⟨[],0,0,[]⟩:U_),(⟨[],[],false,[],[],false⟩:Q_),[113],0,0,0,0,0,(⟨0,[],[],[],[],0,0⟩:Mail),[]⟩:O_)) λr3=>
 ((((((((Sl_)&&(St_))&&true)&&(Sr_))&&(decide (r2.2.2=0)))&&(decide (r2.2.1.count=1)))&&(decide (r3.2.2=0)))&&(decide (r3.2.1.item.Z_.body=[120]))))
def Pd_:Bool:=
 lt (Am_ (⟨4,1,[(⟨[108,111,119],(⟨0,0⟩:C4_),500,1⟩:A5_)],[0],[]⟩:E_) 0) λr=>
 K2_ (([(⟨0,0,(⟨[97],1,[]⟩:W_),(⟨[],0,0,[]⟩:U_),(⟨[],[],false,[],[],false⟩:Q_),[],0,0,0,0,0,(⟨0,[],[],[],[],0,0⟩:Mail),[]⟩:O_),(⟨2,0,(⟨[],0,[]⟩:W_),(⟨[113],4,0,[]⟩:U_),(⟨[],[],false,[],[],false⟩:Q_),[],0,0,0,0,0,(⟨0,[],[],[],[],0,0⟩:Mail),[]⟩:O_),(⟨4,0,(⟨[],0,[]⟩:W_),(⟨[],0,0,[]⟩:U_),(⟨[97],[113],false,[],[],false⟩:Q_),[],0,0,0,0,0,(⟨0,[],[],[],[],0,0⟩:Mail),[]⟩:O_)].length)-0+1) 0 r
theorem all_len0:∀ (t out:List K_),(C7_ t out).length=out.length+t.length
 |[],out=>rfl
 |x::t,out=>by
   unfold C7_ lt
   rw[all_len0 t];simp;omega
theorem all_len {l:Ac_} (h:LnOk l):(Em_ l).length<=64:=by
 unfold Em_
 rw[all_len0]
 have :=h.1
 simp;omega
structure Clo (B:Ap_->Prop) (K:D_->Prop) (M:B4_->Prop):Prop where
 ma:∀ {b x},0<=x.sort->B b->B (Bw_ b x).1
 bd:∀ {b x},(∀ p∈x.want,p.wf)->B b->B (A3_ b x).1
 dp:∀ {b n},B b->B (Dj_ b n).1
 ub:∀ {b x},B b->B (Cv_ b x).1
 fg:∀ {b q},B b->B (Db_ b q)
 km:∀ {k q},K k->K (Al_ k q).1
 kd:∀ {k n},K k->K (A6_ k n).1
 kp:∀ {k n m},StkOk k->K k->K (Ay_ k n m).1
 kl:∀ {k n},K k->K (B2_ k n).1
 kr:∀ {k n i},K k->K (Ag_ k n i).1
 kb:∀ {k n i},K k->K (Cj_ k n i).1
 ks:∀ {k p m},K k->K (Bi_ k p m).1
 kw:∀ {k},StkOk k->K k->K (Eo_ k)
 na:∀ {n x},0<=x.kind/\x.kind<=255->M n->M (Cy_ n x).1
def Cl (B:Ap_->Prop) (K:D_->Prop) (M:B4_->Prop) (s:C_):Prop:=B s.x.book/\K s.x.G_/\M s.x.notes
section
variable {B:Ap_->Prop} {K:D_->Prop} {M:B4_->Prop} (C:Clo B K M)
include C
variable {s:C_}
omit C in
section
variable {m:Mail} {tick:Int} {r:List Bs×List Bs×Int}
end
section
variable {d:O_}
end
end
def BiB (y:Q_):Prop:=y.A9_.length<=16/\Et_ y.to'=0/\y.key.length<=64/\Gq_ y.want=0/\∀ p∈y.want,p.wf
def BkB (b:Ap_):Prop:=(∀ s∈b.Ba_,Jy_ s=0/\0<=s.sort)/\∀ y∈b.binds,BiB y
def RoB (k:D_):Prop:=∀ r∈k.rows,Bh_ r.q=0
def NoB (n:B4_):Prop:=∀ x∈n.kept,x.text.length<=64/\0<=x.kind/\x.kind<=255
theorem M8_ {s:Bs} (h:Et_ s=0):s.length<=16:=by
 unfold Et_ at h
 split at h
 . cases h
 . split at h
   . cases h
   . omega
theorem keyE_len {l:List Bs} {s:Bs} (h:keyE l s=0):s.length<=64:=by
 unfold keyE at h
 split at h
 . cases h
 . omega
theorem Tq_ {x:W_} (h:Jy_ x=0):x.name.length<=16/\x.to'.length<=16/\x.sort<=4:=by
 unfold Jy_ at h
 split at h
 . rename_i q;exact (q h).elim
 . rename_i q
   split at h
   . cases h
   . refine⟨M8_ (by simpa using q),?_,by omega⟩
     split at h
     . exact M8_ h
     . split at h
       . cases h
       . rename_i q2;rw[show x.to'=[] by simpa using q2];simp
theorem Rf_ {q:U_} (h:Bh_ q=0):q.name.length<=16/\q.dead.length<=16/\1<=q.most/\q.most<=64:=by
 unfold Bh_ at h
 by_cases q1:Et_ q.name=0
 . rw[decide_eq_true q1] at h
   simp only[Bool.not_true,cond_false] at h
   cases e:(decide (q.most<1) || decide (64<q.most)) with
   |true=>rw[e] at h;cases h
   |false=>
     rw[e] at h
     simp only[cond_false] at h
     simp only[Bool.or_eq_false_iff,decide_eq_false_iff_not] at e
     refine⟨M8_ q1,?_,by omega,by omega⟩
     by_cases q2:q.dead=[]
     . rw[q2];simp
     . rw[decide_eq_false q2] at h;exact M8_ h
 . rw[decide_eq_false q1] at h;exact (q1 h).elim
theorem Yt_ {α:Type} {l:List α} {a b:Nat} {x:α} (h:x∈[l.take a,l.drop b].flatten):x∈l:=by
 simp only[List.flatten_cons,List.flatten_nil,List.append_nil,List.mem_append] at h
 rcases h with h|h
 . exact List.mem_of_mem_take h
 . exact List.mem_of_mem_drop h
theorem M7_ {α:Type} {l:List α} {y x:α} (h:x∈[l,[y]].flatten):x∈l\/x=y:=by
 simpa using h
theorem Q9_ (f:Q_->Bool):∀ (t out:List Q_) (y:Q_),y∈B9_ f t out->y∈out\/y∈t
 |[],out,y,h=> .inl h
 |x::t,out,y,h=>by
   unfold B9_ at h
   cases e:f x with
   |true=>
     rw[e] at h
     rcases Q9_ f t _ y h with q|q
     . rcases List.mem_append.1 q with q|q
       . exact .inl q
       . exact .inr (by rw[List.mem_singleton.1 q];simp)
     . exact .inr (by simp[q])
   |false=>
     rw[e] at h
     rcases Q9_ f t _ y h with q|q
     . exact .inl q
     . exact .inr (by simp[q])
theorem ruleE_f {r:Rule} (h:Px_ r=0):r.key.length<=64/\Gq_ r.want=0:=by
 unfold Px_ at h
 split at h
 . cases h
 . split at h
   . split at h
     . rename_i q;exact (q h).elim
     . rename_i q;exact⟨keyE_len (by simpa using q),h⟩
   . split at h
     . rename_i q;exact (q h).elim
     . rename_i q;exact⟨keyE_len (by simpa using q),h⟩
theorem shopOf_mem {l:List W_} {n:Bs} (h:(Ef_ l n).isSome=true):∃ s∈l,s.name=n:=by
 obtain⟨s,hs⟩:=Option.isSome_iff_exists.1 h
 exact⟨s,List.mem_of_find?_eq_some hs,by simpa using List.find?_some hs⟩
theorem N1_ {s:D_} {k:Int} {l:Ac_} (h:RoB s):RoB (Ab_ s k l):=λr hr=>by
 have hr:r∈s.rows.set k.toNat ⟨(gt s.rows k.toNat).q,l⟩:=hr
 by_cases q:k.toNat<s.rows.length
 . rcases List.mem_or_eq_of_mem_set hr with e|e
   . exact h r e
   . rw[e];exact h (gt s.rows k.toNat) (List.mem_of_getElem? (getG q))
 . rw[List.set_eq_of_length_le (by omega)] at hr;exact h r hr
theorem rob_wake:∀ (t:List Fd_) (k:Nat) (x:D_),RoB x->RoB (Bq_ t k x)
 |[],_,_,h=>h
 |_::t,k,_,h=>rob_wake t (k+1) _ (N1_ h)
theorem cloB:Clo BkB RoB NoB where
 ma:=λ{b x} hq h=>by
   unfold Bw_
   let Q:Ap_×Int->Prop:=λr=>BkB r.1
   refine bt (P:=Q) (λ_=>h) λe=>bt (P:=Q) (λ_=>h) λ_=>bt (P:=Q) (λ_=>h) λ_=>bt (P:=Q) (λ_=>h) λ_=>⟨λs hs=>?_,h.2⟩
   rcases M7_ hs with q|q
   . exact h.1 s q
   . rw[q];exact⟨by simpa using e,hq⟩
 bd:=λ{b x} hw h=>by
   unfold A3_ lt
   let Q:Ap_×Int->Prop:=λr=>BkB r.1
   refine bt (P:=Q) (λ_=>h) λe1=>bt (P:=Q) (λ_=>h) λ_=>bt (P:=Q) (λ_=>h) λe2=>bt (P:=Q) (λ_=>h) λe3=>bt (P:=Q) (λ_=>h) λ_=>bt (P:=Q) (λ_=>h) λ_=>⟨h.1,λy hy=>?_⟩
   rcases M7_ hy with q|q
   . exact h.2 y q
   . rw[q]
     obtain⟨s,hs,hn⟩:=shopOf_mem (by simpa using e1)
     have hr:=ruleE_f (by simpa using e3)
     exact⟨by rw[<- hn];exact (Tq_ (h.1 s hs).1).1,by simpa using e2,hr.1,hr.2,hw⟩
 dp:=λ{b n} h=>by
   unfold Dj_ lt
   let Q:Ap_×Int->Prop:=λr=>BkB r.1
   refine bt (P:=Q) (λ_=>h) λ_=>⟨λs hs=>h.1 s (Yt_ hs),λy hy=>?_⟩
   rcases Q9_ _ _ _ y hy with q|q
   . cases q
   . exact h.2 y q
 ub:=λ{b x} h=>by
   unfold Cv_ lt
   let Q:Ap_×Int->Prop:=λr=>BkB r.1
   exact bt (P:=Q) (λ_=>h) λ_=>⟨h.1,λy hy=>h.2 y (Yt_ hy)⟩
 fg:=λ{b q} h=>⟨h.1,λy hy=>by
   rcases Q9_ _ _ _ y hy with q|q
   . cases q
   . exact h.2 y q⟩
 km:=λ{k q} h=>by
   unfold Al_ lt
   let Q:D_×Int->Prop:=λr=>RoB r.1
   refine bt (P:=Q) (λ_=>h) λe=>bt (P:=Q) (λ_=>h) λ_=>bt (P:=Q) (λ_=>h) λ_=>bt (P:=Q) (λ_=>h) λ_=>λr hr=>?_
   rcases M7_ hr with q|q
   . exact h r q
   . rw[q];simpa using e
 kd:=λ{k n} h=>by
   unfold A6_ lt
   let Q:D_×Int->Prop:=λr=>RoB r.1
   exact bt (P:=Q) (λ_=>h) λ_=>λr hr=>h r (Yt_ hr)
 kp:=λ{k n m} _ h=>by
   unfold Ay_ lt
   let Q:D_×Int×Mail×Int->Prop:=λr=>RoB r.1
   refine bt (P:=Q) (λ_=>h) λ_=>bt (P:=Q) (λ_=>h) λ_=>bt (P:=Q) (λ_=>h) λ_=>?_
   refine lp2E (P:=Q) (λ_=>True) ?_ λx x1 _=>?_
   . exact bt (P:=LoP _ _) (λ_=>bt (P:=LoP _ _) (λ_=>h) λ_=>trivial) λ_=>trivial
   . exact bt (P:=Q) (λ_=>h) λ_=>bt (P:=Q) (λ_=>h) λ_=>λr hr=>N1_ (k:=I_ k n) h r hr
 kl:=λ{k n} h=>by
   unfold B2_ lt
   let Q:D_×K_×Bool->Prop:=λr=>RoB r.1
   exact bt (P:=Q) (λ_=>h) λ_=>N1_ h
 kr:=λ{k n i} h=>by
   unfold Ag_ lt
   let Q:D_×K_×Int->Prop:=λr=>RoB r.1
   exact bt (P:=Q) (λ_=>h) λ_=>N1_ h
 kb:=λ{k n i} h=>by
   unfold Cj_ lt
   let Q:D_×Int->Prop:=λr=>RoB r.1
   exact bt (P:=Q) (λ_=>h) λ_=>N1_ h
 ks:=λ{k p m} h=>by
   unfold Bi_ lt
   let Q:D_×Int->Prop:=λr=>RoB r.1
   exact bt (P:=Q) (λ_=>h) λ_=>bt (P:=Q) (λ_=>h) λ_=>bt (P:=Q) (λ_=>h) λ_=>h
 kw:=λ{k} _ h=>rob_wake _ _ _ h
 na:=λ{n x} hk h=>by
   unfold Cy_
   let Q:B4_×Int->Prop:=λr=>NoB r.1
   refine bt (P:=Q) (λ_=>h) λe=>bt (P:=Q) (λ_=>h) λ_=>λy hy=>?_
   simp only[decide_eq_false_iff_not] at e
   rcases M7_ (List.mem_of_mem_drop hy) with q|q
   . exact h y q
   . rw[q];exact⟨by omega,hk⟩
def StB (s:C_):Prop:=Cl BkB RoB NoB s
theorem newB (p:E_) (k:Int):StB (Am_ p k):=⟨⟨(λ_ h=>by cases h),λ_ h=>by cases h⟩,(λ_ h=>by cases h),λ_ h=>by cases h⟩
variable {r r':Bs}
def bitM (y:Bool):Nat:=if y then 1 else 0
def Qh_ (s:W_):Bs:=txtB s.name++(numB 1 s.sort.toNat++txtB s.to')
def Lf_ (y:Q_):Bs:=txtB y.A9_++(txtB y.to'++(numB 1 (bitM y.up)++(txtB y.key++(Bg_ y.want++numB 1 (bitM y.all)))))
def Po_ (n:Eh_):Bs:=numB 8 n.tick.toNat++(numB 1 n.kind.toNat++txtB n.text)
def K6_ (n:B4_):Bs:=numB 8 n.total.toNat++(numB 1 n.kept.length++n.kept.flatMap Po_)
def bookB (b:Ap_):Bs:=numB 1 b.Ba_.length++(b.Ba_.flatMap Qh_++(numB 1 b.binds.length++b.binds.flatMap Lf_))
end Go.SW.V
namespace Go.SW.V
open Go.SW
end Go.SW.V
namespace Go.SW
def GPow (H:Hp) (g:Nat):Prop:=∃ T fr,H g=some (.cells (Go.Lib.pow10Tab.map (Value.int .u64)).toArray T fr)
theorem GPow.mono {H H':Hp} {g:Nat} (h:GPow H g) (hl:HLe H H'):GPow H' g:=by
 obtain⟨T,fr,e⟩:=h;exact⟨T,fr,hl _ _ e⟩
end Go.SW
namespace Go.SW.V
open Go.SW
variable {P:Program} {n:Nat} {N:Rest} {H0:Env} {all rest:List Oper} {Q:Qs} {ks:List Kt} {fF:Nat->PV} {fL:Nat->Blk} {T ty d:Nat} {pos:String} {af:Array Edge} {x y z:Operand} {K:St->Prop}
structure EfR where
 F:Nat->PV
 L:Nat->Blk
 eq:Option (Nat×Nat)
def mkE (tb:Tb) (n:Nat) (i b:Nat) (F:Nat->PV) (L:Nat->Blk) (o:Oper):Option EfR:=
 match o.guard with
 |some _=>none
 |none=>match o.dst with
   |none=>none
   |some d=>match Nat.blt d n with
     |false=>none
     |true=>match o.op with
       | .alloc T=>match lkT tb T with
         |some ti=>match evL ti.zero with
           |some zs=>match Ct_ zs with
             |true=>some ⟨updp F d (.own i b 0),lups L i (.box b T zs),none⟩
             |false=>none
           |none=>none
         |none=>none
       | .box T x=>match evP F x with
         | .agg cs=>match Ct_ cs with
           |true=>some ⟨updp F d (.own i b 0),lups L i (.box b T cs),none⟩
           |false=>none
         |v=>match evS v with
           |some p=>match p.one with
             |true=>some ⟨updp F d (.own i b 0),lups L i (.box b T [p]),none⟩
             |false=>none
           |none=>none
       |_=>none
def stE (tb:Tb) (F:Nat->PV) (L:Nat->Blk) (o:Oper):Option EfR:=
 match o.guard with
 |some _=>none
 |none=>match o.dst with
   |some _=>none
   |none=>match o.op with
     | .store T x y=>match evP F x with
       | .own i b off=>match L i with
         | .box b' T0 cs=>match lkT tb T with
           |some ti=>match evP F y with
             | .agg ps=>match Ct_ ps with
               |true=>match all1 ps with
                 |true=>match Nat.beq ps.length ti.size with
                   |true=>match Nat.ble (off+ti.size) cs.length with
                     |true=>match evL (cs.take off++(ps++cs.drop (off+ti.size))) with
                       |some cs'=>some ⟨F,lups L i (.box b T0 cs'),some (b',b)⟩
                       |none=>none
                     |false=>none
                   |false=>none
                 |false=>none
               |false=>none
             |v=>match Nat.beq ti.size 1 with
               |true=>match evS v with
                 |some p=>match p.one with
                   |true=>match Nat.blt off cs.length with
                     |true=>match evL (cs.set off p) with
                       |some cs'=>some ⟨F,lups L i (.box b T0 cs'),some (b',b)⟩
                       |none=>none
                     |false=>none
                   |false=>none
                 |none=>none
               |false=>none
           |none=>none
         |_=>none
       |_=>none
     |_=>none
def kindE (o:Op):Nat:=
 match o with
 | .alloc _=>0
 | .box _ _=>0
 | .store _ _ _=>1
 |_=>2
def runE (tb:Tb) (n:Nat):Nat->List Nat->(Nat->Nat)->Cf->List Kt->(Nat->PV)->(Nat->Blk)->List Prop->List Nat->List Nat->Option RR
 |0,_,_,c,ks,F,L,ps,as0,bs=>frcP ps λps=>frcN as0 λas0=>frcN bs λbs=>some ⟨c,ks,F,L,ps,as0,bs⟩
 |k+1,is,B,c,ks,F,L,ps,as0,bs=>
   match c with
   | .ops all (o::rest)=>match kindE o.op with
     |0=>match is with
       |[]=>none
       |i::is=>match mkE tb n i (B 0) F L o with
         |some ⟨F,L,_⟩=>runE tb n k is (λi=>B (i+1)) (.ops all rest) ks F L ps as0 bs
         |none=>none
     |1=>match stE tb F L o with
       |some ⟨F,L,e⟩=>match e with
         |some (a,b)=>runE tb n k is B (.ops all rest) ks F L ps (a::as0) (b::bs)
         |none=>none
       |none=>none
     |_=>match run tb n 1 (.ops all (o::rest)) ks F L ps as0 bs with
       |some ⟨c,ks,F,L,ps,as0,bs⟩=>runE tb n k is B c ks F L ps as0 bs
       |none=>none
   |c=>match run tb n 1 c ks F L ps as0 bs with
     |some ⟨c,ks,F,L,ps,as0,bs⟩=>runE tb n k is B c ks F L ps as0 bs
     |none=>none
theorem mkE_ok {tb:Tb} (ht:tbB P tb=true) {i:Nat} {F:Nat->PV} {L:Nat->Blk} {o:Oper} (h:∀ b,∃ r,mkE tb n i b F L o=some r/\Hd P n N H0 Q (.ops all rest) ks ⟨r.F,r.L⟩):Hd P n N H0 Q (.ops all (o::rest)) ks ⟨F,L⟩:=by
 obtain⟨dst,op,ty,pos,af,g⟩:=o
 have h0:=h 0
 cases g with
 |some q=>obtain⟨r,h1,_⟩:=h0;simp[mkE] at h1
 |none=>
   cases dst with
   |none=>obtain⟨r,h1,_⟩:=h0;simp[mkE] at h1
   |some d=>
     cases hd:Nat.blt d n with
     |false=>obtain⟨r,h1,_⟩:=h0;simp[mkE,hd] at h1
     |true=>
       cases op with
       |alloc T=>
         simp only[mkE,hd] at h
         cases hti:lkT tb T with
         |none=>rw[hti] at h;obtain⟨r,h1,_⟩:=h 0;simp at h1
         |some ti=>
           rw[hti] at h
           simp only at h
           cases hz:evL ti.zero with
           |none=>rw[hz] at h;obtain⟨r,h1,_⟩:=h 0;simp at h1
           |some zs=>
             rw[hz] at h
             simp only at h
             cases hn:Ct_ zs with
             |false=>rw[hn] at h;obtain⟨r,h1,_⟩:=h 0;simp at h1
             |true=>
               rw[hn] at h
               refine ef (alloc ht i hti hz hn hd λb=>?_)
               obtain⟨r,h1,h2⟩:=h b
               simp only[Option.some.injEq] at h1
               subst h1;exact h2
       |box T x=>
         simp only[mkE,hd] at h
         split at h
         . rename_i cs hx
           cases hn:Ct_ cs with
           |false=>rw[hn] at h;obtain⟨r,h1,_⟩:=h 0;simp at h1
           |true=>
             rw[hn] at h
             refine ef (boxA i hx hn hd λb=>?_)
             obtain⟨r,h1,h2⟩:=h b
             simp only[Option.some.injEq] at h1
             subst h1;exact h2
         . cases hs:evS (evP F x) with
           |none=>rw[hs] at h;obtain⟨r,h1,_⟩:=h 0;simp at h1
           |some p=>
             rw[hs] at h
             simp only at h
             cases ho:p.one with
             |false=>rw[ho] at h;obtain⟨r,h1,_⟩:=h 0;simp at h1
             |true=>
               rw[ho] at h
               refine ef (box1 i hs ho hd λb=>?_)
               obtain⟨r,h1,h2⟩:=h b
               simp only[Option.some.injEq] at h1
               subst h1;exact h2
       |_=>obtain⟨r,h1,_⟩:=h0;simp[mkE,hd] at h1
theorem stE_ok {tb:Tb} (ht:tbB P tb=true) {F:Nat->PV} {L:Nat->Blk} {o:Oper} {r:EfR} (h:stE tb F L o=some r) (he:∀ q,r.eq=some q->q.1=q.2) (k:Hd P n N H0 Q (.ops all rest) ks ⟨r.F,r.L⟩):Hd P n N H0 Q (.ops all (o::rest)) ks ⟨F,L⟩:=by
 obtain⟨dst,op,ty,pos,af,g⟩:=o
 cases g with
 |some q=>simp[stE] at h
 |none=>
   cases dst with
   |some d=>simp[stE] at h
   |none=>
     cases op with
     |store T x y=>
       simp only[stE] at h
       split at h
       . rename_i i b off hx
         split at h
         . rename_i b' T0 cs hb
           split at h
           . rename_i ti hti
             split at h
             . rename_i ps hy
               split at h
               . rename_i hn
                 split at h
                 . rename_i ho
                   split at h
                   . rename_i hsz
                     split at h
                     . rename_i hl
                       split at h
                       . rename_i cs' hc
                         simp only[Option.some.injEq] at h
                         subst h
                         exact ef (storeA ht hx hb hti hy hn ho (Nat.eq_of_beq_eq_true hsz) hl (he _ rfl) hc k)
                       . cases h
                     . cases h
                   . cases h
                 . cases h
               . cases h
             . split at h
               . rename_i hsz
                 split at h
                 . rename_i p hs
                   split at h
                   . rename_i ho
                     split at h
                     . rename_i hl
                       split at h
                       . rename_i cs' hc
                         simp only[Option.some.injEq] at h
                         subst h
                         exact ef (store1 ht hx hb hti (Nat.eq_of_beq_eq_true hsz) hs ho hl (he _ rfl) hc k)
                       . cases h
                     . cases h
                   . cases h
                 . cases h
               . cases h
           . cases h
         . cases h
       . cases h
     |_=>simp[stE] at h
def okR (P:Program) (n:Nat) (N:Rest) (H0:Env) (Q:Qs) (r:RR):Prop:=AllP r.ps/\r.as0=r.bs/\Hd P n N H0 Q r.c r.ks ⟨r.F,r.L⟩
theorem runE_ok {tb:Tb} (ht:tbB P tb=true):∀ (k:Nat) (is:List Nat) (c:Cf) (ks:List Kt) (F:Nat->PV) (L:Nat->Blk) (ps:List Prop) (as0 bs:List Nat),(∀ B:Nat->Nat,∃ r,runE tb n k is B c ks F L ps as0 bs=some r/\okR P n N H0 Q r)->AllP ps/\as0=bs/\Hd P n N H0 Q c ks ⟨F,L⟩:=by
 intro k
 induction k with
 |zero=>
   intro is c ks F L ps as0 bs h
   obtain⟨r,h1,h2,h3,h4⟩:=h (λ_=>0)
   simp only[runE,Rz_,Vr_,Option.some.injEq] at h1
   subst h1
   exact⟨h2,h3,h4⟩
 |succ k ih=>
   intro is c ks F L ps as0 bs h
   have one:(∀ B:Nat->Nat,∃ r,(match run tb n 1 c ks F L ps as0 bs with
       |some ⟨c,ks,F,L,ps,as0,bs⟩=>runE tb n k is B c ks F L ps as0 bs
       |none=>none)=some r/\okR P n N H0 Q r)->AllP ps/\as0=bs/\Hd P n N H0 Q c ks ⟨F,L⟩:=by
     intro h
     cases hr:run tb n 1 c ks F L ps as0 bs with
     |none=>obtain⟨r,h1,_⟩:=h (λ_=>0);rw[hr] at h1;cases h1
     |some q=>
       obtain⟨c',ks',F',L',ps',as',bs'⟩:=q
       obtain⟨i1,i2,i3⟩:=ih is c' ks' F' L' ps' as' bs' (λB=>by obtain⟨r,h1,h2⟩:=h B;rw[hr] at h1;exact⟨r,h1,h2⟩)
       obtain⟨j1,j2,j3⟩:=run_ok ht (Q:=Q) (N:=N) (H0:=H0) 1 c ks F L ps as0 bs _ hr i1 i2
       exact⟨j1,j2,j3 i3⟩
   cases c with
   |code c=>exact one h
   |ex e=>exact one h
   |ops all l=>
     cases l with
     |nil=>exact one h
     |cons o rest=>
       simp only[runE] at h
       split at h
       . cases is with
         |nil=>obtain⟨r,h1,_⟩:=h (λ_=>0);cases h1
         |cons i is=>
           have hb:∀ b,∃ r,mkE tb n i b F L o=some r/\AllP ps/\as0=bs/\Hd P n N H0 Q (.ops all rest) ks ⟨r.F,r.L⟩:=by
             intro b
             cases hm:mkE tb n i b F L o with
             |none=>obtain⟨r,h1,_⟩:=h (λ_=>b);simp only[hm] at h1;cases h1
             |some q=>
               obtain⟨F',L',e⟩:=q
               refine⟨_,rfl,ih is (.ops all rest) ks F' L' ps as0 bs λB=>?_⟩
               obtain⟨r,h1,h2⟩:=h (λj=>match j with|0=>b|j+1=>B j)
               simp only[hm] at h1
               exact⟨r,h1,h2⟩
           obtain⟨_,_,q1,q2,_⟩:=hb 0
           exact⟨q1,q2,mkE_ok ht λb=>by obtain⟨r,h1,_,_,h2⟩:=hb b;exact⟨r,h1,h2⟩⟩
       . cases hs:stE tb F L o with
         |none=>obtain⟨r,h1,_⟩:=h (λ_=>0);rw[hs] at h1;cases h1
         |some q=>
           obtain⟨F',L',e⟩:=q
           cases e with
           |none=>obtain⟨r,h1,_⟩:=h (λ_=>0);rw[hs] at h1;cases h1
           |some ab=>
             obtain⟨a,b⟩:=ab
             obtain⟨i1,i2,i3⟩:=ih is (.ops all rest) ks F' L' ps (a::as0) (b::bs) (λB=>by obtain⟨r,h1,h2⟩:=h B;rw[hs] at h1;exact⟨r,h1,h2⟩)
             simp only[List.cons.injEq] at i2
             exact⟨i1,i2.2,stE_ok ht hs (λq hq=>by cases hq;exact i2.1) i3⟩
       . exact one h
theorem gmp {tb:Tb} (ht:tbB P tb=true) (k:Nat) (is:List Nat) {c c':Cf} {ks':List Kt} {F':(Nat->Nat)->Nat->PV} {L':(Nat->Nat)->Nat->Blk} {ps:(Nat->Nat)->List Prop} {as0 bs:(Nat->Nat)->List Nat} (h:∀ B,runE tb n k is B c ks fF fL [] [] []=some ⟨c',ks',F' B,L' B,ps B,as0 B,bs B⟩) (he:∀ B,as0 B=bs B) (hp:∀ B,AllP (ps B)) (next :∀ B:Nat->Nat,Hd P n N H0 Q c' ks' ⟨F' B,L' B⟩):Hd P n N H0 Q c ks ⟨fF,fL⟩:=
 (runE_ok ht k is c ks fF fL [] [] [] λB=>⟨_,h B,hp B,he B,next B⟩).2.2
theorem gx {tb:Tb} (ht:tbB P tb=true) (k:Nat) {c c':Cf} {ks':List Kt} {F':Nat->PV} {L':Nat->Blk} {as0 bs:List Nat} (next :Hd P n N H0 Q c' ks' ⟨F',L'⟩) (h:run tb n k c ks fF fL [] [] []=some ⟨c',ks',F',L',[],as0,bs⟩:=by exact rfl) (he:as0=bs:=by exact rfl):Hd P n N H0 Q c ks ⟨fF,fL⟩:=go ht k h he trivial next
theorem gm {tb:Tb} (ht:tbB P tb=true) (k:Nat) (is:List Nat) {c c':Cf} {ks':List Kt} {F':(Nat->Nat)->Nat->PV} {L':(Nat->Nat)->Nat->Blk} {as0 bs:(Nat->Nat)->List Nat} (next :∀ B:Nat->Nat,Hd P n N H0 Q c' ks' ⟨F' B,L' B⟩) (h:∀ B,runE tb n k is B c ks fF fL [] [] []=some ⟨c',ks',F' B,L' B,[],as0 B,bs B⟩:=by exact λ_=>rfl) (he:∀ B,as0 B=bs B:=by exact λ_=>rfl):Hd P n N H0 Q c ks ⟨fF,fL⟩:=gmp ht k is h he (λ_=>trivial) next
abbrev jIn (xs:List Nat) (j:Option Nat):Bool:=match j with|none=>true|some j=>memB xs j
theorem sA {tb:Tb} {ti:TI} {i b b' off T0:Nat} {cs ps cs':List PV} (ht:tbB P tb=true) (k:K ⟨fF,lups fL i (.box b T0 cs')⟩) (hx:evP fF x = .own i b off:=by exact rfl) (hb:fL i = .box b' T0 cs:=by exact rfl) (hti:lkT tb T=some ti:=by exact rfl) (hy:evP fF y = .agg ps:=by exact rfl) (hn:Ct_ ps=true:=by exact rfl) (ho:all1 ps=true:=by exact rfl) (hsz:ps.length=ti.size:=by exact rfl) (hl:Nat.ble (off+ti.size) cs.length=true:=by exact rfl) (hbb:b'=b:=by exact rfl) (hc:evL (cs.take off++(ps++cs.drop (off+ti.size)))=some cs':=by exact rfl):E1 P n N H0 all ⟨none, .store T x y,ty,pos,af,none⟩ (some i) ⟨fF,fL⟩ K:=storeA ht hx hb hti hy hn ho hsz hl hbb hc k
theorem sO {tb:Tb} {ti:TI} {i b b' off T0:Nat} {cs cs':List PV} {p:PV} (ht:tbB P tb=true) (k:K ⟨fF,lups fL i (.box b T0 cs')⟩) (hx:evP fF x = .own i b off:=by exact rfl) (hb:fL i = .box b' T0 cs:=by exact rfl) (hti:lkT tb T=some ti:=by exact rfl) (hsz:ti.size=1:=by exact rfl) (hy:evS (evP fF y)=some p:=by exact rfl) (ho:p.one=true:=by exact rfl) (hl:Nat.blt off cs.length=true:=by exact rfl) (hbb:b'=b:=by exact rfl) (hc:evL (cs.set off p)=some cs':=by exact rfl):E1 P n N H0 all ⟨none, .store T x y,ty,pos,af,none⟩ (some i) ⟨fF,fL⟩ K:=store1 ht hx hb hti hsz hy ho hl hbb hc k
theorem aL {tb:Tb} {ti:TI} {zs:List PV} (ht:tbB P tb=true) (i:Nat) (k:∀ b,K ⟨updp fF d (.own i b 0),lups fL i (.box b T zs)⟩) (hti:lkT tb T=some ti:=by exact rfl) (hz:evL ti.zero=some zs:=by exact rfl) (hn:Ct_ zs=true:=by exact rfl) (hd:Nat.blt d n=true:=by exact rfl):E1 P n N H0 all ⟨some d, .alloc T,ty,pos,af,none⟩ (some i) ⟨fF,fL⟩ K:=alloc ht i hti hz hn hd k
theorem eC {f:FuncId} {args:List PV} {res:PV} {as0:Array Operand} {ats:Array TypeId} (h:Fn P H0.g f args res) (ha:argsP fF x as0.toList=some (f,args)) (k:res.wf->K ⟨updp fF d res,fL⟩) (hd:Nat.blt d n=true:=by exact rfl):E1 P n N H0 all ⟨some d, .call ⟨.value x,as0,ats⟩,ty,pos,af,none⟩ none ⟨fF,fL⟩ K:=ecall h ha hd k
theorem vE {xs:List Nat} {fuel:Nat} {listed:Array Bool} {o:Oper} {j:Option Nat} (i:Nat) (hi:nth all i=some o) (h:E1 P n N H0 all o j ⟨fF,fL⟩ (λs'=>Hv P n N H0 Q (some xs) all fuel (listed.setIfInBounds i true) ks s')) (hr:Region.ready .any all.toArray listed=[i]:=by kernel_rfl) (hj:jIn xs j=true:=by exact rfl):Hv P n N H0 Q (some xs) all (fuel+1) listed ks ⟨fF,fL⟩:=ve i hi hr hj h
theorem vT {xs:Option (List Nat)} {fuel:Nat} {listed:Array Bool} {o:Oper} {j:Option Nat} (i:Nat) (hi:nth all i=some o) (h:E1 P n N H0 all o j ⟨fF,fL⟩ (λs'=>Hv P n N H0 Q none all fuel (listed.setIfInBounds i true) ks s')) (hr:Region.ready .any all.toArray listed=[i]:=by kernel_rfl) (ht:tailB all listed i=true:=by kernel_rfl):Hv P n N H0 Q xs all (fuel+1) listed ks ⟨fF,fL⟩:=vt i hi hr ht h
theorem vD {xs:Option (List Nat)} {fuel:Nat} {listed:Array Bool} (k:Hd P n N H0 Q (.ex .normal) ks ⟨fF,fL⟩) (h:Region.ready .any all.toArray listed=[]:=by kernel_rfl):Hv P n N H0 Q xs all fuel listed ks ⟨fF,fL⟩:=vdone h k
theorem aN (xs:List Nat) (m:Nat) {id:Nat} {ops:Array Oper} (hmx:P.follows .mixedOrders=true) (h:Hv P n N H0 Q (some xs) ops.toList m (Array.replicate m false) ks ⟨fF,fL⟩) (hm:ops.toList.length=m:=by exact rfl):Hd P n N H0 Q (.code (.region id ops true)) ks ⟨fF,fL⟩:=any xs m hmx hm h
theorem gX {tb:Tb} (ht:tbB P tb=true) (order:List Nat) (f:Nat) {xs:Option (List Nat)} {fuel:Nat} {listed:Array Bool} {F':Nat->PV} {L':Nat->Blk} {as0 bs:List Nat} (next :Hv P n N H0 Q xs all f (lst listed order) ks ⟨F',L'⟩) (hf:fuel=f+order.length:=by exact rfl) (hc:chkV n all order listed=true:=by kernel_rfl) (h:runV tb xs all order fF fL [] [] []=some ⟨F',L',[],as0,bs⟩:=by exact rfl) (he:as0=bs:=by exact rfl):Hv P n N H0 Q xs all fuel listed ks ⟨fF,fL⟩:=gov ht order f hf hc h he trivial next
theorem vC {xs:Option (List Nat)} {fuel:Nat} {listed:Array Bool} {f:FuncId} {args:List PV} {res:PV} {as0:Array Operand} {ats:Array TypeId} (i:Nat) (hi:nth all i=some ⟨some d, .call ⟨.value x,as0,ats⟩,ty,pos,af,none⟩) (h:Fn P H0.g f args res) (ha:argsP fF x as0.toList=some (f,args)) (k:res.wf->Hv P n N H0 Q xs all fuel (listed.setIfInBounds i true) ks ⟨updp fF d res,fL⟩) (hck:(rdB all listed i&&apB n all listed i ⟨some d, .call ⟨.value x,as0,ats⟩,ty,pos,af,none⟩&&Nat.blt d n&&nosB (.call ⟨.value x,as0,ats⟩))=true:=by kernel_rfl) (hf:res.flat=true:=by exact rfl):Hv P n N H0 Q xs all (fuel+1) listed ks ⟨fF,fL⟩:=vcall i hi hck h hf ha k
theorem nX {ι:Type _} {keep kL:List Nat} {G:Nat->PV} {GL:Nat->Blk} {lv:ι->List (Nat×PV)} {lL:ι->List (Nat×Blk)} {Φ:ι->Prop} {μ:ι->Nat} {m:Nat} {ks:List Kt} {Q:Qs} (x':ι) (hΦ:Φ x') (h3:AllF fF (lv x')) (h4:AllL fL (lL x')) (h1:keep.map fF=keep.map G:=by exact rfl) (h2:kL.map fL=kL.map GL:=by exact rfl) (hm:μ x'<m:=by decide):Hd P n N H0 Q (.ex .normal) (.lp (LJ (λx=>⟨mkF (lv x) keep G,mkL (lL x) kL GL⟩) Φ μ m)::ks) ⟨fF,fL⟩:=next x' h1 h2 h3 h4 hm hΦ
theorem cE {α:Type} {v a b:α} {c:Operand} {p q:Code} {t:Bool} (e:v = bif t then a else b) (ht:t=true->v=a->Hd P n N H0 Q (.code p) ks ⟨fF,fL⟩) (hf:t=false->v=b->Hd P n N H0 Q (.code q) ks ⟨fF,fL⟩) (hc:evP fF c = .bool t:=by exact rfl):Hd P n N H0 Q (.code (.cond c p q)) ks ⟨fF,fL⟩:=cnd hc (λh=>ht h (e.trans (by rw[h];rfl))) (λh=>hf h (e.trans (by rw[h];rfl)))
theorem cD {α:Type} {v a b:α} {c:Operand} {p q:Code} {t:Prop} [Decidable t] (e:v = bif decide t then a else b) (ht:t->v=a->Hd P n N H0 Q (.code p) ks ⟨fF,fL⟩) (hf:¬t->v=b->Hd P n N H0 Q (.code q) ks ⟨fF,fL⟩) (hc:evP fF c = .bool (decide t):=by exact rfl):Hd P n N H0 Q (.code (.cond c p q)) ks ⟨fF,fL⟩:=cE e (λh=>ht (of_decide_eq_true h)) (λh=>hf (of_decide_eq_false h)) hc
theorem cN {α:Type} {v a b:α} {c:Operand} {p q:Code} {t:Prop} [Decidable t] (e:v = bif !decide t then a else b) (ht:¬t->v=a->Hd P n N H0 Q (.code p) ks ⟨fF,fL⟩) (hf:t->v=b->Hd P n N H0 Q (.code q) ks ⟨fF,fL⟩) (hc:evP fF c = .bool (!decide t):=by exact rfl):Hd P n N H0 Q (.code (.cond c p q)) ks ⟨fF,fL⟩:=cE e (λh=>ht (by simpa using h)) (λh=>hf (by simpa using h)) hc
theorem fC {tb:Tb} {G:Gb} {m:Nat} {f:FuncId} {fn:Func} {c:Code} {args:List PV} {res:PV} (hf:P.funcs[f]? = some fn) (ht:tbB P tb=true) (hn:fn.ntmps=m) (h:PV.wfs args->∀ N H,G.p H->Hd P m N ⟨H,G⟩ (rtK tb fn.results.toList res) (.code c) [] ⟨My_ args,λ_=> .no⟩) (hb:fn.body=some c:=by exact rfl) (hs:Nat.ble args.length m=true:=by exact rfl) (h1:(fn.name == "runtime.NumGoroutine")=false:=by kernel_rfl) (h2:fn.body.isNone=false:=by kernel_rfl) (hno:res.noOsl=true:=by exact rfl) (hna:Ct_ args=true:=by exact rfl):Fn P G f args res:=fn_cw ht hf hb hn hs (Ad_ hf h1 h2) hno hna h
variable {tb:Tb} {rs:List ResultVar} {as0 bs:List Nat} {res q0 q1 q2 q3:PV}
theorem qr1 (h:Hz_ tb ⟨fF,fL⟩ rs=some ([q0],as0,bs):=by exact rfl) (he:as0=bs:=by exact rfl) (hp:PLe q0 res:=by exact ple rfl):Hd P n N H0 (rtK tb rs res) (.ex .ret) [] ⟨fF,fL⟩:=rt1 h he hp
theorem qr2 (h:Hz_ tb ⟨fF,fL⟩ rs=some ([q0,q1],as0,bs):=by exact rfl) (he:as0=bs:=by exact rfl) (hp:PLe (.tup [q0,q1]) res:=by exact ple rfl):Hd P n N H0 (rtK tb rs res) (.ex .ret) [] ⟨fF,fL⟩:=rt2 h he hp
theorem qr3 (h:Hz_ tb ⟨fF,fL⟩ rs=some ([q0,q1,q2],as0,bs):=by exact rfl) (he:as0=bs:=by exact rfl) (hp:PLe (.tup [q0,q1,q2]) res:=by exact ple rfl):Hd P n N H0 (rtK tb rs res) (.ex .ret) [] ⟨fF,fL⟩:=rt3 h he hp
theorem qr4 (h:Hz_ tb ⟨fF,fL⟩ rs=some ([q0,q1,q2,q3],as0,bs):=by exact rfl) (he:as0=bs:=by exact rfl) (hp:PLe (.tup [q0,q1,q2,q3]) res:=by exact ple rfl):Hd P n N H0 (rtK tb rs res) (.ex .ret) [] ⟨fF,fL⟩:=rt4 h he hp
theorem cV {α β:Type} {v:β} {g:α} {kf:α->β} {f:FuncId} {args:List PV} {xs:Array Operand} {ats:Array TypeId} (e:v=lt g kf) (enc:α->PV) (h:Fn P H0.g f args (enc g)) (ha:argsP fF x xs.toList=some (f,args)) (k:∀ r,r=g->v=kf r->(enc r).wf->Hd P n N H0 Q (.ops all rest) ks ⟨updp fF d (enc r),fL⟩) (hd:Nat.blt d n=true:=by exact rfl):Hd P n N H0 Q (.ops all (⟨some d, .call ⟨.value x,xs,ats⟩,ty,pos,af,none⟩::rest)) ks ⟨fF,fL⟩:=
 callv g enc h ha hd λr hr w=>k r hr (e.trans (Dh_ hr)) w
theorem gy {tb:Tb} (ht:tbB P tb=true) (k:Nat) {c c':Cf} {ks':List Kt} {F':Nat->PV} {L':Nat->Blk} {ps:List Prop} {as0 bs:List Nat} (next :Hd P n N H0 Q c' ks' ⟨F',L'⟩) (h:run tb n k c ks fF fL [] [] []=some ⟨c',ks',F',L',ps,as0,bs⟩:=by exact rfl) (he:as0=bs:=by exact rfl) (hp:AllP ps:=by repeat' (first|exact trivial|refine And.intro ?_ ?_|exact λhc=>hc|exact rfl|exact λhc=>rfl|omega|(intro hc;omega)|(intro hc;rw[hc];rfl))):Hd P n N H0 Q c ks ⟨fF,fL⟩:=go ht k h he hp next
theorem gmy {tb:Tb} (ht:tbB P tb=true) (k:Nat) (is:List Nat) {c c':Cf} {ks':List Kt} {F':(Nat->Nat)->Nat->PV} {L':(Nat->Nat)->Nat->Blk} {ps:(Nat->Nat)->List Prop} {as0 bs:(Nat->Nat)->List Nat} (next :∀ B:Nat->Nat,Hd P n N H0 Q c' ks' ⟨F' B,L' B⟩) (h:∀ B,runE tb n k is B c ks fF fL [] [] []=some ⟨c',ks',F' B,L' B,ps B,as0 B,bs B⟩:=by exact λ_=>rfl) (he:∀ B,as0 B=bs B:=by exact λ_=>rfl) (hp:∀ B,AllP (ps B):=by intro B;repeat' (first|exact trivial|refine And.intro ?_ ?_|exact λhc=>hc|exact rfl|exact λhc=>rfl|omega|(intro hc;omega)|(intro hc;rw[hc];rfl))):Hd P n N H0 Q c ks ⟨fF,fL⟩:=gmp ht k is h he hp next
theorem gXy {tb:Tb} (ht:tbB P tb=true) (order:List Nat) (f:Nat) {xs:Option (List Nat)} {fuel:Nat} {listed:Array Bool} {F':Nat->PV} {L':Nat->Blk} {ps:List Prop} {as0 bs:List Nat} (next :Hv P n N H0 Q xs all f (lst listed order) ks ⟨F',L'⟩) (hf:fuel=f+order.length:=by exact rfl) (hc:chkV n all order listed=true:=by kernel_rfl) (h:runV tb xs all order fF fL [] [] []=some ⟨F',L',ps,as0,bs⟩:=by exact rfl) (he:as0=bs:=by exact rfl) (hp:AllP ps:=by repeat' (first|exact trivial|refine And.intro ?_ ?_|exact λhc=>hc|exact rfl|exact λhc=>rfl|omega|(intro hc;omega)|(intro hc;rw[hc];rfl))):Hv P n N H0 Q xs all fuel listed ks ⟨fF,fL⟩:=gov ht order f hf hc h he hp next
end Go.SW.V
namespace Go.SW
open Go.RowKit
variable {P:Program}
end Go.SW
namespace Go.SW.V
open Go.SW
def Lu_ (x:K_) (y:K_):Bool:=
 (((decide (x.Z_=y.Z_))&&(x.Sx_==y.Sx_))&&(x.again==y.again))
def Gx_ (s2:List Q_):List Q_->Nat->Bool
 |[],k=>true
 | x::t,k=>(bif !(decide (x=(gt s2 k))) then
 false
 else Gx_ s2 t (k+1))
def L5_ (s1:List Q_) (s2:List Q_):Bool:=
 (bif !decide ((s1.length:Int)=(s2.length:Int)) then
 false
 else Gx_ s2 s1 0)
def Gy_ (s2:List K_):List K_->Nat->Bool
 |[],k=>true
 | x::t,k=>(bif !(Lu_ x (gt s2 k)) then
 false
 else Gy_ s2 t (k+1))
def Nq_ (s1:List K_) (s2:List K_):Bool:=
 (bif !decide ((s1.length:Int)=(s2.length:Int)) then
 false
 else Gy_ s2 s1 0)
def Gz_ (s2:List Mail):List Mail->Nat->Bool
 |[],k=>true
 | x::t,k=>(bif !(decide (x=(gt s2 k))) then
 false
 else Gz_ s2 t (k+1))
def Nr_ (s1:List Mail) (s2:List Mail):Bool:=
 (bif !decide ((s1.length:Int)=(s2.length:Int)) then
 false
 else Gz_ s2 s1 0)
def Pi_ (a:Ac_) (b:Ac_):Bool:=
 (Nq_ a.items b.items)
def Kq_ (a:Bc_) (b:Bc_):Bool:=
 ((decide (a.total=b.total))&&(Nr_ a.kept b.kept))
def Nx_ (a:B4_) (b:B4_):Bool:=
 ((decide (a.total=b.total))&&(decide (a.kept=b.kept)))
def H0_ (a:Ap_) (b:Ap_):Bool:=
 ((decide (a.Ba_=b.Ba_))&&(L5_ a.binds b.binds))
def Ku_ (x:Fd_) (y:Fd_):Bool:=
 ((decide (x.q=y.q))&&(Pi_ x.l y.l))
def Ht_ (s2:List Fd_):List Fd_->Nat->Bool
 |[],k=>true
 | x::t,k=>(bif !(Ku_ x (gt s2 k)) then
 false
 else Ht_ s2 t (k+1))
def P4_ (s1:List Fd_) (s2:List Fd_):Bool:=
 (bif !decide ((s1.length:Int)=(s2.length:Int)) then
 false
 else Ht_ s2 s1 0)
def H1_ (a:D_) (b:D_):Nat->Nat->Bool
 |0,_=>default
 | f2+1,v=>(bif decide ((v:Int)<16) then
 (bif !(Kq_ (A16.get a.rises v) (A16.get b.rises v)) then
 false
 else H1_ a b f2 (v+1))
 else true)
def Ke_ (a:D_) (b:D_):Bool:=
 (bif (((!decide (a.next = b.next))||(!decide (a.bytes=b.bytes)))||(!(P4_ a.rows b.rows))) then
 false
 else H1_ a b (16-0+1) 0)
def L1_ (a:Aa_) (b:Aa_):Bool:=
 (((((H0_ a.book b.book)&&(Ke_ a.G_ b.G_))&&(Nx_ a.notes b.notes))&&(decide (a.seen=b.seen)))&&(decide (a.spent=b.spent)))
def Fo_ (b:Ap_):(List W_):=
 b.Ba_
def C1_:List Q_->List Q_->(List Q_)
 |[],out=>out
 |x::t,out=>C1_ t (out++[x])
def D8_ (b:Ap_):(List Q_):=
 C1_ b.binds []
end Go.SW.V
namespace Go.SW
variable {P:Program} {n:Nat} {N:Rest} {H0:Env} {all rest:List Oper} {Q:Qs} {ks:List Kt} {T ty d:Nat} {pos:String} {af:Array Edge} {x:Operand} {K:St->Prop}
end Go.SW
namespace Go.SW.V
open Go.SW
variable {P:Program} {n:Nat} {N:Rest} {H0:Env} {all rest:List Oper} {Q:Qs} {ks:List Kt} {fF:Nat->PV} {fL:Nat->Blk} {T ty d:Nat} {pos:String} {af:Array Edge} {x:Operand} {K:St->Prop}
end Go.SW.V
namespace Go.SW
end Go.SW
namespace Go.SW.V
open Go.SW
theorem W2_:∀ (l out:List Q_),C1_ l out=out++l
 |[],out=>by simp[C1_]
 |x::t,out=>by unfold C1_;rw[W2_ t];simp
theorem U6_ (b:Ap_):D8_ b=b.binds:=by unfold D8_;rw[W2_];rfl
theorem Wt_ (b:Ap_):Fo_ b=b.Ba_:=rfl
theorem headE_len {h:List Pair} (e:Gq_ h=0):h.length<=8:=by
 unfold Gq_ at e
 split at e
 . cases e
 . omega
theorem bk_want {b:Ap_} (h:BkOk b) (k:BkB b):b.binds.length<=1000/\∀ y∈b.binds,y.want.length<=1000:=
 ⟨by have :=h.2.1;omega,λy hy=>by have :=headE_len (k.2 y hy).2.2.2.1;omega⟩
def Sv_:Bool:=
 (Pd_)
def E5_ (yes:Bool):Int:=
 (bif yes then
 1
 else 0)
def Dd_ (x:K_):Int:=
 (bif x.Sx_ then
 (bif x.again then
 (IntKind.wrap .u64 (1+2))
 else 1)
 else (bif x.again then
 (IntKind.wrap .u64 (0+2))
 else 0))
def Br_:List Eh_->Out->Bs
 |[],x=>x.s
 |x1::t,x=>Br_ t (H_ (B_ (B_ x (x1.tick) 8) (x1.kind) 1) (x1.text))
def C9_ (n:B4_):Bs:=
 Br_ n.kept (B_ (B_ (⟨[],0⟩:Out) n.total 8) (n.kept.length:Int) 1)
def B7_:List Mail->Out->Bs
 |[],x1=>x1.s
 |x2::t,x1=>B7_ t (Ao_ x1 (Bm_ x2))
def Bv_ (x:Bc_):Bs:=
 B7_ x.kept (B_ (B_ (⟨[],0⟩:Out) x.total 8) (x.kept.length:Int) 1)
def F9_:List K_->Ac_->Ac_×Int
 |[],x=>(x,0)
 |x1::t,x=>lt (Eb_ x x1) λr=>
 (bif !decide (r.2=0) then
 ((⟨[]⟩:Ac_),r.2)
 else F9_ t r.1)
def M1_ (items:List K_):Ac_×Int:=
 F9_ items (⟨[]⟩:Ac_)
theorem Me_ (i:In):MlOk (Dz_ i).1:=by
 unfold Dz_
 dsimp only
 split
 . split
   . rename_i h
     by_cases hc:F7_ ⟨(Y_ i 8).1,(X_ (Y_ i 8).2 16).1,(X_ (X_ (Y_ i 8).2 16).2 64).1,(Bt_ (X_ (X_ (Y_ i 8).2 16).2 64).2).1,(X_ (Bt_ (X_ (X_ (Y_ i 8).2 16).2 64).2).2 256).1,(Y_ (X_ (Bt_ (X_ (X_ (Y_ i 8).2 16).2 64).2).2 256).2 8).1,(Y_ (Y_ (X_ (Bt_ (X_ (X_ (Y_ i 8).2 16).2 64).2).2 256).2 8).2 1).1⟩=0
     . exact mlOk_of hc (Bs_ _ _).1
     . exact (Jh_ hc h).elim
   . exact G7_
 . exact G7_
theorem mls_nil:∀ y∈([]:List K_),MlOk y.Z_:=λ_ h=>by cases h
theorem mls_app {l:List K_} {x:K_} (h:∀ y∈l,MlOk y.Z_) (hx:MlOk x.Z_):∀ y∈l++[x],MlOk y.Z_:=λy hy=>by
 rcases List.mem_append.1 hy with q|q
 . exact h y q
 . rw[List.mem_singleton.1 q];exact hx
theorem lof_ok0:∀ (t:List K_) (l:Ac_),LnOk l->(∀ y∈t,MlOk y.Z_)->LnOk (F9_ t l).1
 |[],_,h,_=>h
 |x::t,l,h,hx=>by
   unfold F9_ lt
   refine bt (P:=λr:Ac_×Int=>LnOk r.1) (λ_=>Pl_) λ_=>?_
   exact lof_ok0 t _ (lput_ok h (hx x (by simp)).2.1) λy hy=>hx y (by simp[hy])
theorem lof_ok {t:List K_} (h:∀ y∈t,MlOk y.Z_):LnOk (M1_ t).1:=lof_ok0 t _ Pl_ h
theorem nb_len0:∀ (t:List Eh_) (x:Out),(∀ y∈t,y.text.length<=64)->(Br_ t x).length<=x.s.length+100*t.length
 |[],x,_=>by simp[Br_]
 |y::t,x,h=>by
   have h1:=nb_len0 t (H_ (B_ (B_ x (y.tick) 8) (y.kind) 1) (y.text)) (λz hz=>h z (by simp[hz]))
   have h2:=At_ (B_ (B_ x (y.tick) 8) (y.kind) 1) y.text
   have h3:=R_ (B_ x (y.tick) 8) (y.kind) 1
   have h4:=R_ x (y.tick) 8
   have h5:=h y (by simp)
   rw[Br_]
   simp only[List.length_cons]
   omega
theorem nb_len {n:B4_} (hn:n.kept.length<=32) (h:NoB n):(C9_ n).length<=4000:=by
 have h1:=nb_len0 n.kept (B_ (B_ (⟨[],0⟩:Out) n.total 8) (n.kept.length:Int) 1) (λy hy=>(h y hy).1)
 have h2:=R_ (B_ (⟨[],0⟩:Out) n.total 8) (n.kept.length:Int) 1
 have h3:=R_ (⟨[],0⟩:Out) n.total 8
 have h4:(⟨[],0⟩:Out).s.length=0:=rfl
 unfold C9_
 omega
theorem rb_len0:∀ (t:List Mail) (x:Out),(B7_ t x).length<=x.s.length+3000*t.length
 |[],x=>by simp[B7_]
 |y::t,x=>by
   have h1:=rb_len0 t (Ao_ x (Bm_ y))
   have h2:=Ec_ x (Bm_ y)
   have h3:=Ft_ y
   rw[B7_]
   simp only[List.length_cons]
   omega
theorem rb_len {x:Bc_} (h:RiOk x):(Bv_ x).length<=50000:=by
 have h1:=rb_len0 x.kept (B_ (B_ (⟨[],0⟩:Out) x.total 8) (x.kept.length:Int) 1)
 have h2:=R_ (B_ (⟨[],0⟩:Out) x.total 8) (x.kept.length:Int) 1
 have h3:=R_ (⟨[],0⟩:Out) x.total 8
 have h4:(⟨[],0⟩:Out).s.length=0:=rfl
 have h5:=h.1
 unfold Bv_
 omega
theorem mks_app {l:List Mail} {x:Mail} (h:∀ y∈l,MlOk y) (hx:MlOk x):∀ y∈l++[x],MlOk y:=λy hy=>by
 rcases List.mem_append.1 hy with q|q
 . exact h y q
 . rw[List.mem_singleton.1 q];exact hx
theorem mks_nil:∀ y∈([]:List Mail),MlOk y:=λ_ h=>by cases h
def ImOk (x:Aa_):Prop:=BkOk x.book/\BkB x.book/\StkOk x.G_/\RoB x.G_/\x.notes.kept.length<=32/\NoB x.notes
def DdG (d:O_):Prop:=DdOk d/\0<=d.code/\d.code<=255/\0<=d.Z_.hops/\0<=d.A9_.sort/\∀ p∈d.bind.want,p.wf
def DdsG (i:In) (l:List O_):Prop:=i.err=0->∀ d∈l,DdG d
theorem ddq (q:U_):DdG (⟨2,0,(⟨[],0,[]⟩:W_),q,(⟨[],[],false,[],[],false⟩:Q_),[],0,0,0,0,0,(⟨0,[],[],[],[],0,0⟩:Mail),[]⟩:O_):=
 ⟨⟨by simp,by simp,by simp,by simp⟩,by simp,by simp,by simp,by simp,λ_ h=>by cases h⟩
theorem dds_nil (i:In):DdsG i []:=λ_ _ h=>by cases h
theorem dds_app {i j:In} {l:List O_} {d:O_} (h:DdsG i l) (he:j.err=0->i.err=0/\DdG d):DdsG j (l++[d]):=λe y hy=>by
 obtain⟨e1,e2⟩:=he e
 rcases List.mem_append.1 hy with q|q
 . exact h e1 y q
 . rw[List.mem_singleton.1 q];exact e2
theorem dds_shop {i:In} {r1 r2 r3:_} {l:List O_} (h:DdsG i l) (h1:X_ i 16=r1) (h2:Y_ r1.2 1=r2) (h3:X_ r2.2 16=r3):DdsG r3.2 (l++[(⟨0,0,(⟨r1.1,r2.1,r3.1⟩:W_),(⟨[],0,0,[]⟩:U_),(⟨[],[],false,[],[],false⟩:Q_),[],0,0,0,0,0,(⟨0,[],[],[],[],0,0⟩:Mail),[]⟩:O_)]):=by
 refine dds_app h λe=>?_
 subst h3
 have e2:=(Lq_ e).1
 subst h2
 have e1:=(L9_ e2).1
 subst h1
 exact⟨(Lq_ e1).1,⟨by simp,by simp,by simp,by simp⟩,by simp,by simp,by simp,(Bs_ _ _).1,λ_ h=>by cases h⟩
theorem dds_bind {i:In} {r5 r6 r7 r8 r9 r10:_} {l:List O_} (h:DdsG i l) (h5:X_ i 16=r5) (h6:X_ r5.2 16=r6) (h7:Y_ r6.2 1=r7) (h8:X_ r7.2 64=r8) (h9:Bt_ r8.2=r9) (h10:Y_ r9.2 1=r10):DdsG r10.2 (l++[(⟨4,0,(⟨[],0,[]⟩:W_),(⟨[],0,0,[]⟩:U_),(⟨r5.1,r6.1,decide (r7.1=1),r8.1,r9.1,decide (r10.1=1)⟩:Q_),[],0,0,0,0,0,(⟨0,[],[],[],[],0,0⟩:Mail),[]⟩:O_)]):=by
 refine dds_app h λe=>?_
 subst h10
 have e9:=(L9_ e).1
 subst h9
 obtain⟨e8,_,hd⟩:=Vy_ e9
 subst h8
 have k8:=Lq_ e8
 subst h7
 have e6:=(L9_ k8.1).1
 subst h6
 have e5:=(Lq_ e6).1
 subst h5
 refine⟨(Lq_ e5).1,⟨?_,?_,by simp,by simp⟩,by simp,by simp,by simp,by simp,Z3_ _⟩
 . have :=k8.2.2;show (X_ _ 64).1.length<=1000;omega
 . have :=(Ky_ hd).1;show (Bt_ _).1.length<=1000;omega
def A7_:List K_->Out->Out
 |[],x2=>x2
 |x3::t,x2=>A7_ t (Ao_ (B_ x2 (Dd_ x3) 1) (Bm_ (x3.Z_)))
def Cq_ (s:D_) (x:Out):Nat->Int->Nat->Out->Bs
 |0,_,_,_=>default
 | f2+1,many,v,x4=>(bif decide ((v:Int)<16) then
 lt (Iw_ (A16.get s.rises v)) λr1=>
 (bif decide (0<r1) then
 Cq_ s x f2 (IntKind.wrap .u64 (many+1)) (v+1) (Ao_ (B_ x4 (v:Int) 1) (Bv_ (A16.get s.rises v)))
 else Cq_ s x f2 many (v+1) x4)
 else ((Ao_ (B_ x many 1) x4.s).s))
def Bf_ (s:D_):List Fd_->Out->Bs
 |[],x=>Cq_ s x (16-0+1) 0 0 (⟨[],0⟩:Out)
 | x5::t1,x=>(lt1 (lt (Em_ (x5.l)) λr=>
 A7_ r (B_ (H_ (B_ (B_ (H_ x (x5.q.name)) (x5.q.most) 8) (x5.q.life) 8) (x5.q.dead)) (IntKind.wrap .u64 (Ea_ (x5.l))) 1)) (λx1=>
 Bf_ s t1 x1))
def S_ (s:D_):Bs:=
 Bf_ s s.rows (B_ (B_ (⟨[],0⟩:Out) s.next 8) (s.rows.length:Int) 1)
theorem kb_len1:∀ (t:List K_) (x:Out),(A7_ t x).s.length<=x.s.length+3100*t.length
 |[],x=>by simp[A7_]
 |y::t,x=>by
   have h1:=kb_len1 t (Ao_ (B_ x (Dd_ y) 1) (Bm_ (y.Z_)))
   have h2:=Ec_ (B_ x (Dd_ y) 1) (Bm_ (y.Z_))
   have h3:=Ft_ y.Z_
   have h4:=R_ x (Dd_ y) 1
   rw[A7_]
   simp only[List.length_cons]
   omega
theorem Z5_ {s:D_} (hs:StkOk s) (x:Out):∀ (f:Nat) (many:Int) (v:Nat) (x4:Out),(Cq_ s x f many v x4).length<=x.s.length+8+x4.s.length+60000*(16-v)
 |0,_,_,_=>Nat.zero_le _
 |f+1,many,v,x4=>by
   rw[Cq_]
   refine bt (P:=λr:Bs=>r.length<=_) (λe=>?_) λe=>?_
   . simp only[decide_eq_true_eq] at e
     unfold lt
     refine bt (P:=λr:Bs=>r.length<=_) (λ_=>?_) λ_=>?_
     . have h1:=Z5_ hs x f (IntKind.wrap .u64 (many+1)) (v+1) (Ao_ (B_ x4 (v:Int) 1) (Bv_ (A16.get s.rises v)))
       have h2:=Ec_ (B_ x4 (v:Int) 1) (Bv_ (A16.get s.rises v))
       have h3:=R_ x4 (v:Int) 1
       have h4:=rb_len (hs.2.1 v (by omega))
       have h5:(Bv_ (A16.get s.rises v)).length<=50000:=h4
       omega
     . have h1:=Z5_ hs x f many (v+1) x4
       omega
   . have h2:=Ec_ (B_ x many 1) x4.s
     have h3:=R_ x many 1
     omega
theorem kb_len0 {s:D_} (hs:StkOk s):∀ (t:List Fd_) (x:Out),(∀ r∈t,LnOk r.l/\Bh_ r.q=0)->(Bf_ s t x).length<=x.s.length+200000*(t.length+5)
 |[],x,_=>by
   have h1:=Z5_ hs x (16-0+1) 0 0 (⟨[],0⟩:Out)
   have h4:(⟨[],0⟩:Out).s.length=0:=rfl
   rw[Bf_]
   simp only[List.length_nil]
   omega
 |r::t,x,h=>by
   rw[Bf_]
   obtain⟨hl,hq⟩:=h r (by simp)
   obtain⟨q1,q2,_,_⟩:=Rf_ hq
   show (Bf_ s t (A7_ (Em_ r.l) (B_ (H_ (B_ (B_ (H_ x (r.q.name)) (r.q.most) 8) (r.q.life) 8) (r.q.dead)) (IntKind.wrap .u64 (Ea_ (r.l))) 1))).length<=_
   have h7:=At_ x (r.q.name)
   generalize H_ x (r.q.name)=o1 at h7 ⊢
   have h6:=R_ o1 (r.q.most) 8
   generalize B_ o1 (r.q.most) 8=o2 at h6 ⊢
   have h5:=R_ o2 (r.q.life) 8
   generalize B_ o2 (r.q.life) 8=o3 at h5 ⊢
   have h4:=At_ o3 (r.q.dead)
   generalize H_ o3 (r.q.dead)=o4 at h4 ⊢
   have h3:=R_ o4 (IntKind.wrap .u64 (Ea_ (r.l))) 1
   generalize B_ o4 (IntKind.wrap .u64 (Ea_ (r.l))) 1=o5 at h3 ⊢
   have h8:=all_len hl
   have h2:=kb_len1 (Em_ r.l) o5
   generalize A7_ (Em_ r.l) o5=o6 at h2 ⊢
   have h1:=kb_len0 hs t o6 (λz hz=>h z (by simp[hz]))
   refine Nat.le_trans h1 ?_
   clear h1
   generalize (Em_ r.l).length=n at h2 h8
   simp only[List.length_cons]
   omega
theorem kb_len {s:D_} (hs:StkOk s) (hq:RoB s):(S_ s).length<=3000000:=by
 unfold S_
 have h3:=R_ (⟨[],0⟩:Out) s.next 8
 have h4:(⟨[],0⟩:Out).s.length=0:=rfl
 generalize B_ (⟨[],0⟩:Out) s.next 8=o1 at h3 ⊢
 have h2:=R_ o1 (s.rows.length:Int) 1
 generalize B_ o1 (s.rows.length:Int) 1=o2 at h2 ⊢
 have h1:=kb_len0 hs s.rows o2 (λr hr=>⟨hs.1.2.1 r hr,hq r hr⟩)
 have h5:=hs.1.1
 refine Nat.le_trans h1 ?_
 clear h1
 omega
theorem Ch_ {z:Int} (h0:0<=z) (h1:z<=18446744073709551615):IntKind.wrap .u64 z=z:=Nm_ ⟨h0,h1⟩
def Gj_ (r1:Int×In):Nat->Int->Int->List Mail->In->Bc_×In
 |0,_,_,_,_=>default
 | f2+1,k,total,kept,x1=>(bif ((decide (k<r1.1))&&(decide (x1.err=0))) then
 lt (Dz_ x1) λr2=>
 Gj_ r1 f2 (IntKind.wrap .u64 (k+1)) total (kept++[r2.1]) r2.2
 else (bif !decide (x1.err=0) then
 ((⟨0,[]⟩:Bc_),x1)
 else ((⟨total,kept⟩:Bc_),x1)))
def Ic_ (i:In):Bc_×In:=
 lt (Y_ i 8) λr=>
 lt (Y_ r.2 1) λr1=>
 (lt1 ((bif !decide (r1.2.err=0) then
 r1.2
 else (bif decide (16<r1.1) then
 (Bl_ r1.2 6)
 else (bif !decide (r1.1=(min r.1 16)) then
 (Bl_ r1.2 7)
 else r1.2)))) (λx=>
 Gj_ r1 ((r1.1-0).toNat+1) 0 r.1 [] x))
def En_ (r1:Int×In):Nat->Int->Int->List Eh_->In->B4_×In
 |0,_,_,_,_=>default
 | f2+1,k,total,kept,x1=>(bif ((decide (k<r1.1))&&(decide (x1.err=0))) then
 lt (Y_ x1 8) λr2=>
 lt (Y_ r2.2 1) λr3=>
 lt (X_ r3.2 64) λr4=>
 En_ r1 f2 (IntKind.wrap .u64 (k+1)) total (kept++[(⟨r2.1,r3.1,r4.1⟩:Eh_)]) r4.2
 else (bif !decide (x1.err=0) then
 ((⟨0,[]⟩:B4_),x1)
 else ((⟨total,kept⟩:B4_),x1)))
def Do_ (i:In):B4_×In:=
 lt (Y_ i 8) λr=>
 lt (Y_ r.2 1) λr1=>
 (lt1 ((bif !decide (r1.2.err=0) then
 r1.2
 else (bif decide (32<r1.1) then
 (Bl_ r1.2 6)
 else (bif !decide (r1.1=(min r.1 32)) then
 (Bl_ r1.2 7)
 else r1.2)))) (λx=>
 En_ r1 ((r1.1-0).toNat+1) 0 r.1 [] x))
theorem Y9_ (r1:Int×In):∀ (f:Nat) (k total:Int) (kept:List Mail) (x:In),(∀ m∈kept,MlOk m)->(kept.length:Int)=k->k<=16->(x.err=0->r1.1<=16)->RiOk (Gj_ r1 f k total kept x).1
 |0,_,_,_,_,_,_,_,_=>⟨Nat.zero_le _,λ_ h=>by cases h⟩
 |f+1,k,total,kept,x,h,hk,h16,he=>by
   rw[Gj_]
   refine bt (P:=λr:Bc_×In=>RiOk r.1) (λe=>?_) λe=>?_
   . simp only[Bool.and_eq_true,decide_eq_true_eq] at e
     have h1:=he e.2
     refine Y9_ r1 f _ _ _ _ (mks_app h (Me_ x)) ?_ ?_ (λ_=>h1)
     . rw[Ch_ (by omega) (by omega)]
       simp only[List.length_append,List.length_cons,List.length_nil]
       omega
     . rw[Ch_ (by omega) (by omega)];omega
   . refine bt (P:=λr:Bc_×In=>RiOk r.1) (λ_=>Wp_) λ_=>?_
     exact⟨by show kept.length<=16;omega,λm hm=>(h m hm).1⟩
theorem Q8_ {i:In} {c:Int} (h:(Bl_ i c).err=0):i.err=0/\c=0:=by
 by_cases hc:c=0
 . subst hc;rw[Q7_] at h;exact⟨h,rfl⟩
 . exact (Jh_ hc h).elim
theorem rread_ok (i:In):RiOk (Ic_ i).1:=by
 unfold Ic_ lt lt1
 refine Y9_ _ _ _ _ _ _ mks_nil rfl (by decide) λe=>?_
 revert e
 refine bt (P:=λj:In=>j.err=0->_) (λe1 e2=>?_) λe1=>bt (P:=λj:In=>j.err=0->_) (λe2 e3=>(Jh_ (by decide) e3).elim) λe2 _=>?_
 . simp only[Bool.not_eq_true',decide_eq_false_iff_not] at e1
   exact (e1 e2).elim
 . simp only[decide_eq_false_iff_not] at e2
   omega
theorem Yv_ (r1:Int×In):∀ (f:Nat) (k total:Int) (kept:List Eh_) (x:In),(x.err=0->NoB ⟨0,kept⟩)->(kept.length:Int)=k->k<=32->(x.err=0->r1.1<=32)->(En_ r1 f k total kept x).1.kept.length<=32/\NoB (En_ r1 f k total kept x).1
 |0,_,_,_,_,_,_,_,_=>⟨Nat.zero_le _,λ_ h=>by cases h⟩
 |f+1,k,total,kept,x,h,hk,h16,he=>by
   rw[En_]
   refine bt (P:=λr:B4_×In=>r.1.kept.length<=32/\NoB r.1) (λe=>?_) λe=>?_
   . simp only[Bool.and_eq_true,decide_eq_true_eq] at e
     have h1:=he e.2
     unfold lt
     refine Yv_ r1 f _ _ _ _ (λe4=>?_) ?_ ?_ (λ_=>h1)
     . intro y hy
       rcases List.mem_append.1 hy with q|q
       . exact h e.2 y q
       . rw[List.mem_singleton.1 q]
         have k1:=(Lq_ e4).2.2
         have k2:=Bs_ (Y_ x 8).2 1
         refine⟨?_,k2.1,k2.2.2.2 (by decide)⟩
         show (X_ _ 64).1.length<=64
         omega
     . rw[Ch_ (by omega) (by omega)]
       simp only[List.length_append,List.length_cons,List.length_nil]
       omega
     . rw[Ch_ (by omega) (by omega)];omega
   . refine bt (P:=λr:B4_×In=>r.1.kept.length<=32/\NoB r.1) (λ_=>⟨Nat.zero_le _,λ_ h=>by cases h⟩) λe1=>?_
     simp only[Bool.not_eq_false',decide_eq_true_eq] at e1
     exact⟨by show kept.length<=32;omega,h e1⟩
theorem nread_ok (i:In):(Do_ i).1.kept.length<=32/\NoB (Do_ i).1:=by
 unfold Do_ lt lt1
 refine Yv_ _ _ _ _ _ _ (λ_ _ h=>by cases h) rfl (by decide) λe=>?_
 revert e
 refine bt (P:=λj:In=>j.err=0->_) (λe1 e2=>?_) λe1=>bt (P:=λj:In=>j.err=0->_) (λe2 e3=>(Jh_ (by decide) e3).elim) λe2 _=>?_
 . simp only[Bool.not_eq_true',decide_eq_false_iff_not] at e1
   exact (e1 e2).elim
 . simp only[decide_eq_false_iff_not] at e2
   omega
theorem nread_e0 (r1:Int×In):∀ (f:Nat) (k total:Int) (kept:List Eh_) (x:In),k<r1.1+1->(r1.1-k).toNat<f->0<=k->r1.1<=255->(En_ r1 f k total kept x).2.err=0->x.err=0
 |0,_,_,_,_,_,hf,_,_,_=>by omega
 |f+1,k,total,kept,x,hk,hf,h0,h5,h=>by
   rw[En_] at h
   revert h
   refine bt (P:=λr:B4_×In=>r.2.err=0->x.err=0) (λe h=>?_) λe=>?_
   . simp only[Bool.and_eq_true,decide_eq_true_eq] at e
     exact e.2
   . exact bt (P:=λr:B4_×In=>r.2.err=0->x.err=0) (λ_ h=>h) λ_ h=>h
def NtF (n:B4_):Prop:=(0<=n.total/\n.total<=18446744073709551615)/\(n.kept.length:Int)=min n.total 32/\∀ x∈n.kept,(0<=x.tick/\x.tick<=18446744073709551615)/\(0<=x.kind/\x.kind<=255)/\x.text.length<=64
theorem Us_ (r1:Int×In) (r:Bs) (h32:r1.1<=32):∀ (t:List Eh_) (f:Nat) (k total:Int) (kept:List Eh_),k+t.length=r1.1->0<=k->t.length<f->(∀ x∈t,(0<=x.tick/\x.tick<=18446744073709551615)/\(0<=x.kind/\x.kind<=255)/\x.text.length<=64)->En_ r1 f k total kept ⟨t.flatMap Po_++r,0⟩=(⟨total,kept++t⟩,⟨r,0⟩)
 |_,0,_,_,_,_,_,h,_=>by omega
 |[],f+1,k,total,kept,hk,h0,hf,_=>by
   rw[En_]
   simp only[List.length_nil] at hk
   have e:decide (k<r1.1)=false:=decide_eq_false (by omega)
   rw[e]
   simp
 |x::t,f+1,k,total,kept,hk,h0,hf,hx=>by
   obtain⟨h1,h2,h3⟩:=hx x (by simp)
   simp only[List.length_cons] at hk hf
   rw[En_]
   have e:decide (k<r1.1)=true:=decide_eq_true (by omega)
   have e1:Y_ ⟨(x::t).flatMap Po_++r,0⟩ 8=(x.tick,⟨numB 1 x.kind.toNat++(txtB x.text++(t.flatMap Po_++r)),0⟩):=by
     rw[List.flatMap_cons,Po_]
     simp only[List.append_assoc]
     exact Hb_ h1.1 (by omega)
   have e2:Y_ ⟨numB 1 x.kind.toNat++(txtB x.text++(t.flatMap Po_++r)),0⟩ 1=(x.kind,⟨txtB x.text++(t.flatMap Po_++r),0⟩):=Kb_ h2.1 (by omega)
   have e3:X_ ⟨txtB x.text++(t.flatMap Po_++r),0⟩ 64=(x.text,⟨t.flatMap Po_++r,0⟩):=Ns_ (by omega) (by omega)
   rw[e]
   simp only[decide_true,Bool.and_true,cond_true]
   rw[lt,e1,lt,e2,lt,e3]
   rw[Us_ r1 r h32 t f _ total (kept++[(⟨x.tick,x.kind,x.text⟩:Eh_)]) (by rw[Ch_ (by omega) (by omega)];omega) (by rw[Ch_ (by omega) (by omega)];omega) (by omega) (λy hy=>hx y (by simp[hy]))]
   simp
theorem nread_fwd {n:B4_} (h:NtF n) (r:Bs):Do_ ⟨K6_ n++r,0⟩=(n,⟨r,0⟩):=by
 obtain⟨h1,h2,h3⟩:=h
 unfold Do_
 have e1:Y_ ⟨K6_ n++r,0⟩ 8=(n.total,⟨numB 1 n.kept.length++(n.kept.flatMap Po_++r),0⟩):=by
   rw[K6_]
   simp only[List.append_assoc]
   exact Hb_ h1.1 (by omega)
 have e2:Y_ ⟨numB 1 n.kept.length++(n.kept.flatMap Po_++r),0⟩ 1=((n.kept.length:Int),⟨n.kept.flatMap Po_++r,0⟩):=H7_ (by omega)
 rw[lt,e1,lt,e2,lt1]
 dsimp only
 have d1:decide ((32:Int)<(n.kept.length:Int))=false:=decide_eq_false (by omega)
 have d2:decide ((n.kept.length:Int)=min n.total 32)=true:=decide_eq_true h2
 rw[d1,d2]
 simp only[decide_true,Bool.not_true,cond_false]
 rw[Us_ _ r (by omega) n.kept _ 0 n.total [] (by omega) (by omega) (by omega) h3]
 simp
def MlF (m:Mail):Prop:=m.wf/\(∀ p∈m.head,p.wf)/\F7_ m=0
def RiF (x:Bc_):Prop:=(0<=x.total/\x.total<=18446744073709551615)/\(x.kept.length:Int)=min x.total 16/\∀ m∈x.kept,MlF m
theorem rb_eq0:∀ (t:List Mail) (o:Out),B7_ t o=o.s++t.flatMap Bm_
 |[],o=>by simp[B7_]
 |y::t,o=>by
   rw[B7_,rb_eq0 t]
   simp[Ao_]
theorem rb_eq (x:Bc_):Bv_ x=numB 8 x.total.toNat++(numB 1 x.kept.length++x.kept.flatMap Bm_):=by
 unfold Bv_
 rw[rb_eq0,F8_,Jx_]
 simp
theorem mail_fwd {m:Mail} {r:Bs} (h:MlF m):Dz_ ⟨Bm_ m++r,0⟩=(m,⟨r,0⟩):=by
 rw[show Bm_ m=Yp_ m from S9_ h.2.2 (λp hp=>(h.2.1 p hp).1.1)]
 exact Yq_ h.1 h.2.1 h.2.2
theorem Uz_ (r1:Int×In) (r:Bs) (h32:r1.1<=16):∀ (t:List Mail) (f:Nat) (k total:Int) (kept:List Mail),k+t.length=r1.1->0<=k->t.length<f->(∀ m∈t,MlF m)->Gj_ r1 f k total kept ⟨t.flatMap Bm_++r,0⟩=(⟨total,kept++t⟩,⟨r,0⟩)
 |_,0,_,_,_,_,_,h,_=>by omega
 |[],f+1,k,total,kept,hk,h0,hf,_=>by
   rw[Gj_]
   simp only[List.length_nil] at hk
   have e:decide (k<r1.1)=false:=decide_eq_false (by omega)
   rw[e]
   simp
 |x::t,f+1,k,total,kept,hk,h0,hf,hx=>by
   simp only[List.length_cons] at hk hf
   rw[Gj_]
   have e:decide (k<r1.1)=true:=decide_eq_true (by omega)
   have e1:Dz_ ⟨(x::t).flatMap Bm_++r,0⟩=(x,⟨t.flatMap Bm_++r,0⟩):=by
     rw[List.flatMap_cons,List.append_assoc]
     exact mail_fwd (hx x (by simp))
   rw[e]
   simp only[decide_true,Bool.and_true,cond_true]
   rw[lt,e1]
   rw[Uz_ r1 r h32 t f _ total (kept++[x]) (by rw[Ch_ (by omega) (by omega)];omega) (by rw[Ch_ (by omega) (by omega)];omega) (by omega) (λy hy=>hx y (by simp[hy]))]
   simp
theorem rread_fwd {x:Bc_} (h:RiF x) (r:Bs):Ic_ ⟨Bv_ x++r,0⟩=(x,⟨r,0⟩):=by
 obtain⟨h1,h2,h3⟩:=h
 unfold Ic_
 have e1:Y_ ⟨Bv_ x++r,0⟩ 8=(x.total,⟨numB 1 x.kept.length++(x.kept.flatMap Bm_++r),0⟩):=by
   rw[rb_eq]
   simp only[List.append_assoc]
   exact Hb_ h1.1 (by omega)
 have e2:Y_ ⟨numB 1 x.kept.length++(x.kept.flatMap Bm_++r),0⟩ 1=((x.kept.length:Int),⟨x.kept.flatMap Bm_++r,0⟩):=H7_ (by omega)
 rw[lt,e1,lt,e2,lt1]
 dsimp only
 have d1:decide ((16:Int)<(x.kept.length:Int))=false:=decide_eq_false (by omega)
 have d2:decide ((x.kept.length:Int)=min x.total 16)=true:=decide_eq_true h2
 rw[d1,d2]
 simp only[decide_true,Bool.not_true,cond_false]
 rw[Uz_ _ r (by omega) x.kept _ 0 x.total [] (by omega) (by omega) (by omega) h3]
 simp
def U64 (t:Int):Prop:=0<=t/\t<=18446744073709551615
structure Clw (T:Int->Prop) (W:Mail->Prop) (K:D_->Prop) (M:B4_->Prop):Prop where
 kp:∀ {k n m},StkOk k->W m->K k->K (Ay_ k n m).1/\W (Ay_ k n m).2.2.1
 kl:∀ {k n},K k->K (B2_ k n).1
 kr:∀ {k n i},K k->K (Ag_ k n i).1/\W (Ag_ k n i).2.1.Z_
 kb:∀ {k n i},K k->K (Cj_ k n i).1
 ks:∀ {k p m},W m->K k->K (Bi_ k p m).1
 kw:∀ {k},StkOk k->K k->K (Eo_ k)
 kt:∀ {k t},K k->W (Az_ k t).2.1
 na:∀ {n x},T x.tick->0<=x.kind/\x.kind<=255->M n->M (Cy_ n x).1
 wd:∀ {m t l},W m->W ⟨0,m.A9_,m.key,m.head,m.body,Iy_ m.due t l,m.hops⟩
 wr:∀ {m},W m->W ⟨0,m.A9_,m.key,m.head,m.body,m.due,m.hops⟩
 wb:∀ {m s},W m->W ⟨m.id,s,m.key,m.head,m.body,0,IntKind.wrap .u8 (m.hops+1)⟩
 wp:∀ {m},W m->W ⟨m.id,m.A9_,m.key,m.head,m.body,m.due,IntKind.wrap .u8 (m.hops+1)⟩
def Sp (a:A8_SpentR):Prop:=∀ i,i<8->U64 (A8.get a i).round
theorem round_u {p:E_} {t:Int} (h:U64 t):U64 (Kt_ p t):=by
 unfold Kt_
 obtain⟨h1,h2⟩:=h
 have h3:0<=t/(p.slots.length:Int):=Int.ediv_nonneg h1 (by omega)
 have h4:t/(p.slots.length:Int)<=t:=Int.ediv_le_self _ h1
 exact⟨h3,by omega⟩
theorem Sp.all {a:A8_SpentR} (h:Sp a) (k:Nat):U64 (A8.get a k).round:=by
 by_cases q:k<8
 . exact h k q
 . obtain⟨n,rfl⟩:∃ n,k=n+8:=⟨_,(Nat.sub_add_cancel (by omega)).symm⟩
   exact h 7 (by decide)
theorem Sp.set {a:A8_SpentR} (h:Sp a) {x:Av_} (hx:U64 x.round) (k:Nat):Sp (A8.set a x k):=by
 have key:∀ k,k<8->Sp (A8.set a x k):=λk hk i hi=>by
   rw[A8.get_set _ _ _ _ hk hi]
   by_cases q:i=k
   . rw[if_pos q];exact hx
   . rw[if_neg q];exact h i hi
 by_cases q:k<8
 . exact key k q
 . obtain⟨n,rfl⟩:∃ n,k=n+8:=⟨_,(Nat.sub_add_cancel (by omega)).symm⟩
   exact key 7 (by decide)
def Zb_ (s:C_) (d:O_):C_:=⟨⟨s.x.book,s.x.G_,s.x.notes,A16.set s.x.seen d.number d.frm.toNat,s.x.spent⟩,s.M_,s.place⟩
structure Kw (T:Int->Prop) (K:D_->Prop) (M:B4_->Prop) (s0 s:C_):Prop where
 po:s.M_=s0.M_
 pl:s.place=s0.place
 bo:s.x.book=s0.x.book
 k:K s.x.G_
 n:M s.x.notes
 se:s.x.seen=s0.x.seen
 sp:(∀ t,T t->U64 t)->Sp s0.x.spent->Sp s.x.spent
section
variable {T:Int->Prop} {W:Mail->Prop} {K:D_->Prop} {M:B4_->Prop} (C:Clw T W K M) {s0 s:C_}
include C
omit C in
theorem Kw.G_ (h:Kw T K M s0 s) {k:D_} (hk:K k):Kw T K M s0 ⟨⟨s.x.book,k,s.x.notes,s.x.seen,s.x.spent⟩,s.M_,s.place⟩:=⟨h.po,h.pl,h.bo,hk,h.n,h.se,h.sp⟩
theorem Kw.note (h:Kw T K M s0 s) {t k:Int} {x:Bs} (ht:T t) (hk:0<=k/\k<=255):Kw T K M s0 (Cx_ s t k x):=⟨h.po,h.pl,h.bo,h.k,C.na ht hk h.n,h.se,h.sp⟩
theorem Kw.spend (h:Kw T K M s0 s) {to' t:Int} (ht:T t):Kw T K M s0 (Dr_ s to' t).1:=by
 unfold Dr_ lt
 let Q:C_×Int->Prop:=λr=>Kw T K M s0 r.1
 refine bt (P:=Q) (λ_=>h) λ_=>?_
 refine lt1E (P:=Q) (λx:Av_=>(∀ t,T t->U64 t)->Sp s.x.spent->U64 x.round) ?_ λx hx=>bt (P:=Q) (λ_=>h) λ_=>⟨h.po,h.pl,h.bo,h.k,C.na ht ⟨(by decide :(0:Int)<=2),(by decide :(2:Int)<=255)⟩ h.n,h.se,λu q=>Sp.set (h.sp u q) (x:=⟨x.round,x.count+1⟩) (hx u (h.sp u q)) _⟩
 exact bt (P:=λx:Av_=>(∀ t,T t->U64 t)->Sp s.x.spent->U64 x.round) (λ_ u _=>round_u (u _ ht)) λ_ _ q=>q.all _
def GnW (T:Int->Prop) (W:Mail->Prop) (K:D_->Prop) (M:B4_->Prop) (s0:C_) (r:C_×List Gw_×Int×Int):Prop:=Kw T K M s0 r.1/\∀ g∈r.2.1,W g.Z_
section
variable {m:Mail} {tick:Int} {r:List Bs×List Bs×Int}
theorem send1_w {gone:List Gw_} (ht:T tick) (hm:W m) (hs:Kw T K M s0 s) (hg:∀ g∈gone,W g.Z_):∀ (t:List Bs) (n:Int) (x:C_),Kw T K M s0 x->GnW T W K M s0 (By_ s m tick r gone t n x)
 |[],n,x,hx=>⟨hx,hg⟩
 |q::t,n,x,hx=>by
   unfold By_ lt
   have h0:∀ e,GnW T W K M s0 (s,[],0,e):=λe=>⟨hs,(λ_ h=>by cases h)⟩
   refine lp1E (P:=GnW T W K M s0) (Kw T K M s0) ?_ λy hy=>?_
   . refine bt (P:=LoP _ _) (λ_=>?_) λ_=>hx
     exact bt (P:=LoP _ _) (λ_=>h0 _) λ_=>Kw.spend C hx ht
   . exact bt (P:=GnW T W K M s0) (λ_=>h0 _) λ_=>send1_w ht hm hs hg t _ _ (hy.G_ (C.ks (C.wr hm) hy.k))
theorem Ws_ (ht:T tick) (hm:W m) (hs:Kw T K M s0 s) (h0:0<=m.hops):∀ (t:List Bs) (gone:List Gw_) (n:Int) (x:C_),(∀ g∈gone,W g.Z_)->StOk x->Kw T K M s0 x->GnW T W K M s0 (Au_ s m tick r t gone n x)
 |[],gone,n,x,hg,_,hx=>by
   unfold Au_
   exact send1_w C ht hm hs hg _ _ _ hx
 |q::t,gone,n,x,hg,ho,hx=>by
   unfold Au_ lt
   refine bt (P:=GnW T W K M s0) (λ_=>Ws_ ht hm hs h0 t _ _ x hg ho hx) λ_=>?_
   have hw:=C.wd (t:=tick) (l:=(Af_ x.x.G_ q).1.life) hm
   generalize Iy_ m.due tick (Af_ x.x.G_ q).1.life=due at hw ⊢
   have hp:=(V6_ (s:=x.x.G_) (n:=q) (m:=⟨0,m.A9_,m.key,m.head,m.body,due,m.hops⟩) ho.stk h0).1
   have hk:=C.kp (n:=q) (m:=⟨0,m.A9_,m.key,m.head,m.body,due,m.hops⟩) ho.stk hw hx.k
   refine bt (P:=GnW T W K M s0) (λ_=>⟨hs,(λ_ h=>by cases h)⟩) λ_=>?_
   refine bt (P:=GnW T W K M s0) (λ_=>Ws_ ht hm hs h0 t _ _ _ (λg q=>?_) (Cu_ ho hp) (hx.G_ hk.1)) λ_=>Ws_ ht hm hs h0 t _ _ _ hg (Cu_ ho hp) (hx.G_ hk.1)
   rcases List.mem_append.1 q with q|q
   . exact hg g q
   . rw[List.mem_singleton.1 q];exact hk.2
theorem send_w (ht:T tick) (ho:StOk s) (hs:Kw T K M s0 s) (hm:W m) (h0:0<=m.hops):GnW T W K M s0 (Ae_ s m tick):=by
 unfold Ae_ lt
 exact bt (P:=GnW T W K M s0) (λ_=>⟨hs,(λ_ h=>by cases h)⟩) λ_=>Ws_ C ht hm hs h0 _ _ _ _ (λ_ h=>by cases h) ho hs
end
theorem Vb_ {tick:Int} (ht:T tick):∀ (f:Nat) (gone:List Gw_) (lost:Int) (x:C_),Rj_ gone lost x->wtk x.x.G_+wto gone<f->(∀ g∈gone,W g.Z_)->Kw T K M s0 x->Kw T K M s0 (C3_ tick f gone lost x).1
 |0,_,_,_,_,h,_,_=>by omega
 |f+1,gone,lost,x,hI,hf,hg,hx=>by
   unfold C3_ lt
   let Q:C_×Int->Prop:=λr=>Kw T K M s0 r.1
   refine bt (P:=Q) (λe=>?_) λ_=>hx
   have hn:0<gone.length:=by simpa using e
   have hd:∀ g∈gone.drop 1,W g.Z_:=λg q=>hg g (List.mem_of_mem_drop q)
   refine bt (P:=Q) (λ_=>Vb_ ht f _ _ _ (Rm_ hI hn) (T9_ hn hf) hd hx) λ_=>?_
   have hm:MlOk (gt gone 0).Z_:=hI.2.1 _ (H3_ hn)
   refine bt (P:=Q) (λ_=>?_) λe4=>?_
   . have h:=Jw_ (s:=x) (t:=tick) (k:=1) (x:=(gt gone 0).queue) hI.1
     exact Vb_ ht f _ _ _ (Rn_ hI h.1 h.2 hn) (W4_ h.2 hn hf) hd (Kw.note C hx ht (by decide))
   . simp only[Bool.or_eq_false_iff,decide_eq_false_iff_not,Bool.not_eq_false',decide_eq_true_eq] at e4
     have hs:=Mj_ (s:=x) (m:=⟨(L_ (gt gone 0).Z_).id,(Af_ x.x.G_ (gt gone 0).queue).1.dead,(L_ (gt gone 0).Z_).key,(L_ (gt gone 0).Z_).head,(L_ (gt gone 0).Z_).body,0,IntKind.wrap .u8 ((L_ (gt gone 0).Z_).hops+1)⟩) (tick:=tick) hI.1 (Ml_ _)
     have hw:=send_w C (tick:=tick) ht hI.1 hx (C.wb (m:=L_ (gt gone 0).Z_) (s:=(Af_ x.x.G_ (gt gone 0).queue).1.dead) (hg _ (H3_ hn))) (Ml_ _)
     refine Vb_ ht f _ _ _ (Ro_ hI hs.1 hs.2.1 hn rfl hm e4.1 hs.2.2 rfl e4.2) (Ua_ hn hf rfl hm e4.1 hs.2.2 rfl e4.2) (λg q=>?_) hw.1
     rcases List.mem_append.1 (List.mem_of_mem_drop q) with q|q
     . exact hg g q
     . exact hw.2 g q
theorem bury_v {gone:List Gw_} {tick:Int} (ht:T tick) (h:StOk s) (hg:gone.length<=600/\∀ g∈gone,MlOk g.Z_) (hw:∀ g∈gone,W g.Z_) (hs:Kw T K M s0 s):Kw T K M s0 (Ck_ s gone tick).1:=
 Vb_ C ht _ gone 0 s (buryI0 h hg) (Nat.lt_succ_self _) hw hs
section
variable {d:O_}
theorem settle_w (ht:T d.tick) (h:StOk s) (hs:Kw T K M s0 s):Kw T K M s0 (Df_ s d).1:=by
 unfold Df_ lt
 let Q:C_×Ar_×Int->Prop:=λr=>Kw T K M s0 r.1
 refine bt (P:=Q) (λ_=>hs) λ_=>?_
 refine bt (P:=Q) (λ_=>hs.G_ (C.kb hs.k)) λ_=>?_
 have hr:=Kc_ (n:=d.name) (id:=d.id) h.stk
 have hk:=C.kr (n:=d.name) (i:=d.id) hs.k
 refine bt (P:=Q) (λ_=>bury_v C ht (Cu_ h hr.1) ⟨by simp,λg hg=>?_⟩ (λg hg=>?_) (hs.G_ hk.1)) λ_=>hs.G_ hk.1
 . rw[List.mem_singleton.1 hg];exact hr.2
 . rw[List.mem_singleton.1 hg];exact hk.2
theorem late_w0 {t:Int} (ht:T t):∀ (f:Nat) (gone:List Gw_) (x:C_),StOk x->(∀ g∈gone,MlOk g.Z_)->(∀ g∈gone,W g.Z_)->gone.length+nik x.x.G_<=512->nik x.x.G_<f->Kw T K M s0 x->Kw T K M s0 (D3_ t f gone x).1
 |0,_,_,_,_,_,_,h,_=>by omega
 |f+1,gone,x,h,hg,hw,hl,hf,hs=>by
   unfold D3_ lt
   let Q:C_×Ar_->Prop:=λr=>Kw T K M s0 r.1
   refine bt (P:=Q) (λ_=>bury_v C ht h ⟨by omega,hg⟩ hw hs) λe=>?_
   have e':(Az_ x.x.G_ t).2.2=true:=by simpa using e
   have hr:=Kc_ (n:=(Az_ x.x.G_ t).1) (id:=(Az_ x.x.G_ t).2.1.id) h.stk
   refine late_w0 ht f _ _ (Cu_ h hr.1) (λg q=>?_) (λg q=>?_) (late_in h.stk rfl e' rfl hl) (late_mu h.stk rfl e' rfl hf) (hs.G_ (C.kr hs.k).1)
   . rcases List.mem_append.1 q with q|q
     . exact hg g q
     . rw[List.mem_singleton.1 q];exact V5_ h.stk
   . rcases List.mem_append.1 q with q|q
     . exact hw g q
     . rw[List.mem_singleton.1 q];exact C.kt hs.k
theorem late_w {t:Int} (ht:T t) (h:StOk s) (hs:Kw T K M s0 s):Kw T K M s0 (Fp_ s t).1:=
 late_w0 C ht _ [] s h (λ_ h=>by cases h) (λ_ h=>by cases h) (by have :=nik_r h.stk;simpa using this) (Nat.lt_succ_self _) hs
theorem put_w (ht:T d.tick) (h:StOk s) (h0:0<=d.Z_.hops) (hm:W d.Z_) (hs:Kw T K M s0 s):Kw T K M s0 (El_ s d).1:=by
 unfold El_ lt
 let Q:C_×Ar_×Int->Prop:=λr=>Kw T K M s0 r.1
 have h1:=Mj_ (s:=s) (m:=L_ d.Z_) (tick:=d.tick) h h0
 have hl:=Mi_ (s:=s) (m:=L_ d.Z_) (tick:=d.tick) h
 have hw:=send_w C (m:=L_ d.Z_) (tick:=d.tick) ht h hs hm h0
 exact bt (P:=Q) (λ_=>hs) λ_=>bury_v C ht h1.1 ⟨by omega,h1.2.1⟩ hw.2 hw.1
theorem lend_w (hs:Kw T K M s0 s):Kw T K M s0 (Dl_ s d).1:=by
 unfold Dl_ lt
 let Q:C_×Ar_×Int->Prop:=λr=>Kw T K M s0 r.1
 refine bt (P:=Q) (λ_=>hs) λ_=>?_
 exact bt (P:=Q) (λ_=>hs) λ_=>hs.G_ (C.kl hs.k)
theorem pull_w (ht:T d.tick) (h:StOk s) (hm:W d.Z_) (hs:Kw T K M s s):Kw T K M s (Dm_ s d).1\/Kw T K M (Zb_ s d) (Dm_ s d).1:=by
 unfold Dm_ lt
 let Q:C_×Ar_×Int->Prop:=λr=>Kw T K M s r.1\/Kw T K M (Zb_ s d) r.1
 refine bt (P:=Q) (λ_=> .inl hs) λ_=>bt (P:=Q) (λ_=> .inl hs) λ_=>bt (P:=Q) (λ_=> .inl hs) λ_=>?_
 let I:C_->Prop:=λx=>StOk x/\Kw T K M (Zb_ s d) x
 have h2:Kw T K M (Zb_ s d) (⟨(⟨s.x.book,s.x.G_,s.x.notes,(A16.set s.x.seen d.number ((d.frm).toNat)),s.x.spent⟩:Aa_),s.M_,s.place⟩:C_):=⟨rfl,rfl,rfl,hs.k,hs.n,rfl,λ_=>id⟩
 refine lt1E (P:=Q) I ?_ λx hx=>?_
 . exact bt (P:=I) (λ_=>⟨(Jw_ (Dq_ h)).1,Kw.note C h2 ht (by decide)⟩) λ_=>⟨Dq_ h,h2⟩
 . refine bt (P:=Q) (λ_=> .inr (Kw.note C hx.2 ht (by decide))) λ_=>?_
   have h1:=Mj_ (s:=x) (m:=⟨(L_ d.Z_).id,(L_ d.Z_).A9_,(L_ d.Z_).key,(L_ d.Z_).head,(L_ d.Z_).body,(L_ d.Z_).due,IntKind.wrap .u8 ((L_ d.Z_).hops+1)⟩) (tick:=d.tick) hx.1 (Ml_ _)
   have hl:=Mi_ (s:=x) (m:=⟨(L_ d.Z_).id,(L_ d.Z_).A9_,(L_ d.Z_).key,(L_ d.Z_).head,(L_ d.Z_).body,(L_ d.Z_).due,IntKind.wrap .u8 ((L_ d.Z_).hops+1)⟩) (tick:=d.tick) hx.1
   have hw:=send_w C (tick:=d.tick) ht hx.1 hx.2 (C.wp (m:=L_ d.Z_) hm) (Ml_ _)
   exact .inr (bury_v C ht h1.1 ⟨by omega,h1.2.1⟩ hw.2 hw.1)
theorem do_w (ht:T d.tick) (hc:0<=d.code/\d.code<=255) (h:StOk s) (h0:0<=d.Z_.hops) (hm:W d.Z_) (hs:Kw T K M s s):(P_ s d).1=s\/(Kw T K M s (P_ s d).1\/Kw T K M (Zb_ s d) (P_ s d).1)\/(P_ s d).1=(A2_ s d).1\/(P_ s d).1=(Ax_ s d).1:=by
 unfold P_ lt
 let Q:C_×Ar_×Int->Prop:=λr=>r.1=s\/(Kw T K M s r.1\/Kw T K M (Zb_ s d) r.1)\/r.1=(A2_ s d).1\/r.1=(Ax_ s d).1
 refine bt (P:=Q) (λe=> .inl rfl) λ_=>?_
 let I:Int×C_×Ar_->Prop:=λr=>(Kw T K M s r.2.1\/Kw T K M (Zb_ s d) r.2.1)\/r.2.1=(A2_ s d).1\/r.2.1=(Ax_ s d).1
 refine lt3E (P:=Q) I ?_ λa b c hb=>bt (P:=Q) (λe=> .inl rfl) λe=> .inr hb
 refine lt1E (P:=I) (λv:Bool=>True) trivial λv hv=>?_
 refine bt (P:=I) (λe=> .inr (.inl rfl)) λ_=>bt (P:=I) (λe=> .inl (.inl (put_w C ht h h0 hm hs))) λ_=>bt (P:=I) (λe=> .inl (.inl (lend_w C hs))) λ_=>bt (P:=I) (λe=> .inl (.inl (settle_w C ht h hs))) λ_=>bt (P:=I) (λe=> .inl (.inl (late_w C ht h hs))) λ_=>bt (P:=I) (λe=> .inl (pull_w C ht h hm hs)) λ_=>?_
 refine bt (P:=I) (λ_=> .inl (.inl (Kw.note C (s:=⟨⟨s.x.book,Eo_ s.x.G_,s.x.notes,s.x.seen,s.x.spent⟩,s.M_,s.place⟩) (hs.G_ (C.kw h.stk hs.k)) ht (by decide)))) λ_=>bt (P:=I) (λ_=> .inl (.inl ⟨rfl,rfl,rfl,hs.k,C.na ht hc hs.n,rfl,λ_=>id⟩)) λ_=> .inr (.inr rfl)
end
end
def ShB (s:C_) (d:O_) (b:Ap_):Prop:=b=s.x.book\/b=(Bw_ s.x.book d.A9_).1\/b=(Dj_ s.x.book d.name).1\/b=(Cv_ s.x.book d.bind).1\/b=(A3_ s.x.book d.bind).1
theorem shops_x (s:C_) (d:O_):∃ b,(Ax_ s d).1=⟨⟨b,s.x.G_,s.x.notes,s.x.seen,s.x.spent⟩,s.M_,s.place⟩/\ShB s d b:=by
 unfold Ax_ lt
 let Q:C_×Int->Prop:=λr=>∃ b,r.1=⟨⟨b,s.x.G_,s.x.notes,s.x.seen,s.x.spent⟩,s.M_,s.place⟩/\ShB s d b
 have hn:∀ {e},Q (s,e):=⟨_,rfl, .inl rfl⟩
 refine bt (P:=Q) (λ_=>?_) λ_=>?_
 . refine lp0E (P:=Q) (λ_=>True) ?_ λ_=>⟨_,rfl, .inr (.inl rfl)⟩
   refine bt (P:=LoP _ _) (λ_=>?_) λ_=>trivial
   refine bt (P:=LoP _ _) (λ_=>hn) λ_=>?_
   exact bt (P:=LoP _ _) (λ_=>hn) λ_=>trivial
 . refine bt (P:=Q) (λ_=>⟨_,rfl, .inr (.inr (.inl rfl))⟩) λ_=>bt (P:=Q) (λ_=>⟨_,rfl, .inr (.inr (.inr (.inl rfl)))⟩) λ_=>?_
   refine lp0E (P:=Q) (λ_=>True) ?_ λ_=>⟨_,rfl, .inr (.inr (.inr (.inr rfl)))⟩
   refine lt1E (P:=LoP _ _) (λ_=>True) trivial λv _=>?_
   refine bt (P:=LoP _ _) (λ_=>hn) λ_=>?_
   exact bt (P:=LoP _ _) (λ_=>hn) λ_=>trivial
theorem Wn_ (s:C_) (d:O_):∃ b k,(A2_ s d).1=⟨⟨b,k,s.x.notes,s.x.seen,s.x.spent⟩,s.M_,s.place⟩/\(k=(Al_ s.x.G_ d.queue).1\/k=(A6_ s.x.G_ d.name).1)/\(b=s.x.book\/b=Db_ s.x.book d.name):=by
 unfold A2_ lt
 let Q:C_×Int->Prop:=λr=>∃ b k,r.1=⟨⟨b,k,s.x.notes,s.x.seen,s.x.spent⟩,s.M_,s.place⟩/\(k=(Al_ s.x.G_ d.queue).1\/k=(A6_ s.x.G_ d.name).1)/\(b=s.x.book\/b=Db_ s.x.book d.name)
 exact bt (P:=Q) (λ_=>⟨_,_,rfl, .inl rfl, .inl rfl⟩) λ_=>bt (P:=Q) (λ_=>⟨_,_,rfl, .inr rfl, .inr rfl⟩) λ_=>⟨_,_,rfl, .inr rfl, .inl rfl⟩
theorem cloBw:Clw (λ_=>True) (λ_=>True) RoB NoB where
 kp:=λhs _ h=>⟨cloB.kp hs h,trivial⟩
 kl:=cloB.kl
 kr:=λh=>⟨cloB.kr h,trivial⟩
 kb:=cloB.kb
 ks:=λ_ h=>cloB.ks h
 kw:=cloB.kw
 kt:=λ_=>trivial
 na:=λ_ hk h=>cloB.na hk h
 wd:=λh=>h
 wr:=λh=>h
 wb:=λ_=>trivial
 wp:=λ_=>trivial
theorem doB {s:C_} {d:O_} (hc:0<=d.code/\d.code<=255) (h:StOk s) (h0:0<=d.Z_.hops) (hq:0<=d.A9_.sort) (hw:∀ p∈d.bind.want,p.wf) (hs:StB s):StB (P_ s d).1:=by
 obtain⟨h1,h2,h3⟩:=hs
 have key:∀ s0 t:C_,s0.x.book=s.x.book->Kw (λ_=>True) RoB NoB s0 t->StB t:=λs0 t e k=>⟨by rw[k.bo,e];exact h1,k.k,k.n⟩
 rcases do_w cloBw trivial hc h h0 trivial (⟨rfl,rfl,rfl,h2,h3,rfl,λ_=>id⟩:Kw (λ_=>True) RoB NoB s s) with e|(e|e)|e|e
 . rw[e];exact⟨h1,h2,h3⟩
 . exact key _ _ rfl e
 . exact key (Zb_ s d) _ rfl e
 . obtain⟨b,k,e2,e3,e4⟩:=Wn_ s d
   rw[e,e2]
   refine⟨?_,?_,h3⟩
   . show BkB b
     rcases e4 with rfl|rfl
     . exact h1
     . exact cloB.fg h1
   . show RoB k
     rcases e3 with rfl|rfl
     . exact cloB.km h2
     . exact cloB.kd h2
 . obtain⟨b,e2,e3⟩:=shops_x s d
   rw[e,e2]
   refine⟨?_,h2,h3⟩
   show BkB b
   rcases e3 with rfl|rfl|rfl|rfl|rfl
   . exact h1
   . exact cloB.ma hq h1
   . exact cloB.dp h1
   . exact cloB.ub h1
   . exact cloB.bd hw h1
theorem ntf_nil:NtF ⟨0,[]⟩:=⟨by simp,by decide,λ_ h=>by cases h⟩
theorem nadd_f {n:B4_} {x:Eh_} (ht:U64 x.tick) (hk:0<=x.kind/\x.kind<=255) (h:NtF n):NtF (Cy_ n x).1:=by
 obtain⟨⟨h1,h2⟩,h3,h4⟩:=h
 unfold Cy_
 let Q:B4_×Int->Prop:=λr=>NtF r.1
 refine bt (P:=Q) (λ_=>⟨⟨h1,h2⟩,h3,h4⟩) λe1=>bt (P:=Q) (λ_=>⟨⟨h1,h2⟩,h3,h4⟩) λe2=>?_
 simp only[decide_eq_false_iff_not] at e1 e2
 have hw:IntKind.wrap .u64 (n.total+1)=n.total+1:=Ch_ (by omega) (by omega)
 have hl:([n.kept,[x]].flatten).length=n.kept.length+1:=by simp
 refine⟨⟨?_,?_⟩,?_,λy hy=>?_⟩
 . show 0<=IntKind.wrap .u64 (n.total+1)
   omega
 . show IntKind.wrap .u64 (n.total+1)<=18446744073709551615
   omega
 . show (((([n.kept,[x]].flatten).drop ((max 0 ((([n.kept,[x]].flatten).length:Int)-32))).toNat)).length:Int)=min (IntKind.wrap .u64 (n.total+1)) 32
   rw[List.length_drop,hl,hw]
   omega
 . have hy:y∈([n.kept,[x]].flatten).drop ((max 0 ((([n.kept,[x]].flatten).length:Int)-32))).toNat:=hy
   have hy:=List.mem_of_mem_drop hy
   simp only[List.flatten_cons,List.flatten_nil,List.append_nil,List.mem_append,List.mem_singleton] at hy
   rcases hy with q|q
   . exact h4 y q
   . subst q
     exact⟨ht,hk,by omega⟩
theorem rif_nil:RiF ⟨0,[]⟩:=⟨by simp,by decide,λ_ h=>by cases h⟩
theorem rput_f {x:Bc_} {m:Mail} (hm:F7_ m=0->MlF m) (h:RiF x):RiF (B8_ x m).1:=by
 obtain⟨⟨h1,h2⟩,h3,h4⟩:=h
 unfold B8_ lt
 let Q:Bc_×Int->Prop:=λr=>RiF r.1
 refine bt (P:=Q) (λ_=>⟨⟨h1,h2⟩,h3,h4⟩) λe1=>bt (P:=Q) (λ_=>⟨⟨h1,h2⟩,h3,h4⟩) λe2=>?_
 simp only[Bool.not_eq_false',decide_eq_true_eq] at e1
 simp only[decide_eq_false_iff_not] at e2
 have hw:IntKind.wrap .u64 (x.total+1)=x.total+1:=Ch_ (by omega) (by omega)
 have hc:L_ m=m:=rfl
 have hl:([x.kept,[L_ m]].flatten).length=x.kept.length+1:=by simp
 refine⟨⟨?_,?_⟩,?_,λy hy=>?_⟩
 . show 0<=IntKind.wrap .u64 (x.total+1)
   omega
 . show IntKind.wrap .u64 (x.total+1)<=18446744073709551615
   omega
 . show (((([x.kept,[L_ m]].flatten).drop ((max 0 ((([x.kept,[L_ m]].flatten).length:Int)-16))).toNat)).length:Int)=min (IntKind.wrap .u64 (x.total+1)) 16
   rw[List.length_drop,hl,hw]
   omega
 . have hy:y∈([x.kept,[L_ m]].flatten).drop ((max 0 ((([x.kept,[L_ m]].flatten).length:Int)-16))).toNat:=hy
   have hy:=List.mem_of_mem_drop hy
   simp only[List.flatten_cons,List.flatten_nil,List.append_nil,List.mem_append,List.mem_singleton] at hy
   rcases hy with q|q
   . exact h4 y q
   . rw[hc] at q;subst q
     exact hm e1
def Mp_ (x:K_):Bs:=numB 1 (Dd_ x).toNat++Bm_ x.Z_
def rowB (r:Fd_):Bs:=txtB r.q.name++(numB 8 r.q.most.toNat++(numB 8 r.q.life.toNat++(txtB r.q.dead++(numB 1 r.l.items.length++r.l.items.flatMap Mp_))))
def upB (a:A16_RiseR):Nat->Bs
 |0=>[]
 |n+1=>(if 0<(A16.get a (15-n)).total then numB 1 (15-n)++Bv_ (A16.get a (15-n)) else [])++upB a n
def upN (a:A16_RiseR):Nat->Nat
 |0=>0
 |n+1=>(if 0<(A16.get a (15-n)).total then 1 else 0)+upN a n
theorem upN_le (a:A16_RiseR):∀ n,upN a n<=n
 |0=>Nat.le_refl 0
 |n+1=>by
   have :=upN_le a n
   rw[upN]
   split<;>omega
theorem all_id0:∀ (t out:List K_),C7_ t out=out++t
 |[],out=>by simp[C7_]
 |x::t,out=>by
   rw[C7_,lt,all_id0 t]
   simp[B3_,lt,L_]
theorem all_id (l:Ac_):Em_ l=l.items:=by
 unfold Em_
 rw[all_id0];rfl
theorem ke1:∀ (t:List K_) (o:Out),A7_ t o=⟨o.s++t.flatMap Mp_,o.err⟩
 |[],o=>by simp[A7_]
 |y::t,o=>by
   rw[A7_,ke1 t,F8_]
   simp[Ao_,Mp_]
theorem ke2 (s:D_) (x:Out):∀ (n f:Nat) (many:Nat) (o:Out),n<=16->n<f->many+n<=16->Cq_ s x f many (16-n) o=x.s++(numB 1 (many+upN s.rises n)++(o.s++upB s.rises n))
 |_,0,_,_,_,h,_=>by omega
 |0,f+1,many,o,_,_,_=>by
   rw[Cq_]
   have e:decide (((16-0:Nat):Int)<16)=false:=by decide
   rw[e,cond_false,F8_]
   simp[Ao_,upN,upB]
 |n+1,f+1,many,o,h,hf,hm=>by
   rw[Cq_]
   have e:decide (((16-(n+1):Nat):Int)<16)=true:=decide_eq_true (by omega)
   have hv:16-(n+1)=15-n:=by omega
   have hv2:16-(n+1)+1=16-n:=by omega
   rw[e,cond_true,lt,hv2,hv]
   have ht:Iw_ (A16.get s.rises (15-n))=(A16.get s.rises (15-n)).total:=rfl
   rw[ht]
   by_cases q:0<(A16.get s.rises (15-n)).total
   . rw[decide_eq_true q,cond_true]
     have hw:IntKind.wrap .u64 ((many:Int)+1)=((many+1:Nat):Int):=by rw[Ch_ (by omega) (by omega)];omega
     rw[hw,ke2 s x n f (many+1) _ (by omega) (by omega) (by omega),F8_,upN,upB,if_pos q,if_pos q]
     simp only[Ao_,List.append_assoc,Int.toNat_natCast]
     rw[Nat.add_assoc]
   . rw[decide_eq_false q,cond_false,ke2 s x n f many _ (by omega) (by omega) (by omega),upN,upB,if_neg q,if_neg q]
     simp
theorem ke0 (s:D_):∀ (t:List Fd_) (o:Out),(∀ r∈t,LnOk r.l/\Bh_ r.q=0)->Bf_ s t o=o.s++(t.flatMap rowB++(numB 1 (upN s.rises 16)++upB s.rises 16))
 |[],o,_=>by
   rw[Bf_]
   have :=ke2 s o 16 17 0 (⟨[],0⟩:Out) (by omega) (by omega) (by omega)
   simpa using this
 |r::t,o,h=>by
   obtain⟨hl,hq⟩:=h r (by simp)
   obtain⟨q1,q2,_,_⟩:=Rf_ hq
   have h64:=hl.1
   have hw:IntKind.wrap .u64 (Ea_ r.l)=(r.l.items.length:Int):=Ch_ (show (0:Int)<=(r.l.items.length:Int) by omega) (show (r.l.items.length:Int)<=_ by omega)
   rw[Bf_,lt1,lt,all_id,ke1,hw,F8_,Ce_ (s:=r.q.dead) (by omega),Jx_,Jx_,Ce_ (s:=r.q.name) (by omega)]
   rw[ke0 s t _ (λz hz=>h z (by simp[hz]))]
   simp[rowB,List.append_assoc]
theorem ke {s:D_} (hs:StkOk s) (hq:RoB s):S_ s=numB 8 s.next.toNat++(numB 1 s.rows.length++(s.rows.flatMap rowB++(numB 1 (upN s.rises 16)++upB s.rises 16))):=by
 unfold S_
 rw[ke0 s _ _ (λr hr=>⟨hs.1.2.1 r hr,hq r hr⟩),F8_,Jx_]
 simp
end Go.SW.V
namespace Go.SW
variable {P:Program} {n:Nat} {N:Rest} {H0:Env} {all rest:List Oper} {Q:Qs} {ks:List Kt} {s:St} {T ty d:Nat} {pos:String} {af:Array Edge} {x:Operand} {K:St->Prop}
structure Fy (P:Program) (G:Gb) (f:FuncId) (arg:PV) (args:List PV) (T:TypeId) (pre:List PV) (res:PV) (post:List PV):Prop where
 cb:An_ P f
 no:res.noOsl=true
 np:Ct_ post=true
 run:∀ (N:Rest) (H:Hp) (L:Ls) (w:World) (b i:Nat) (v0:Value) (vs vc:List Value),G.p H->Sim H arg v0->Sims H args vs->L i=some (b,bx T vc)->Sims H pre vc->Mem N H L w ->
   Calls P f (v0::Value.pointer (some ⟨b,0,none⟩)::vs).toArray w λe w'=>∃ v H' vc',e = .returned v/\Sim H' res v/\Sims H' post vc'/\HLe H H'/\Mem N H' (lupd L i (some (b,bx T vc'))) w'
theorem fy_cw {tb:Tb} {G:Gb} {m:Nat} {f:FuncId} {fn:Func} {c:Code} {arg:PV} {args pre post:List PV} {res:PV} {T:Nat} (ht:tbB P tb=true) (hf:P.funcs[f]? = some fn) (hb:fn.body=some c) (hn:fn.ntmps=m) (hs:Nat.ble (args.length+2) m=true) (hcb:An_ P f) (hno:res.noOsl=true) (hna:Ct_ (arg::args)=true) (hnp:Ct_ pre=true) (hnq:Ct_ post=true)
   (h:PV.wfs (arg::args)->PV.wfs pre->∀ b N H,G.p H->Hd P m N ⟨H,G⟩ (rmK tb fn.results.toList res b T post) (.code c) [] ⟨My_ (arg :: .own 0 b 0::args),lups (λ_=> .no) 0 (.box b T pre)⟩):Fy P G f arg args T pre res post:=by
 refine⟨hcb,hno,hnq,λN H L w b i v0 vs vc hg hs0 hsim hL hpre hm=>?_⟩
 subst hn
 simp only[Ct_,Bool.and_eq_true] at hna
 have hs':Sims H (arg :: .own 0 b 0::args) (v0::Value.pointer (some ⟨b,0,none⟩)::vs):=(hsim.cons Sim.own).cons hs0
 have key:Pm P f (v0::Value.pointer (some ⟨b,0,none⟩)::vs).toArray H b (bx T vc) (λv H' o'=>∃ vc',o'=bx T vc'/\Sim H' res v/\Sims H' post vc'):=by
   refine pm_of_cw hf hb (by have :=Nat.le_of_ble_eq_true hs;simp[hsim.1];omega) λN=>?_
   have h1:=h (hsim.cons hs0).wf hpre.wf b N H hg (Jj_ (v0::Value.pointer (some ⟨b,0,none⟩)::vs).toArray) H (ofL [(b,bx T vc)]) ⟨.refl H,hg,λt=>Kz_ hs' (by simp only [Ct_,Bool.and_eq_true];exact ⟨hna.1,rfl,hna.2⟩) t,λj=>by
     by_cases e:j=0
     . subst e;simp only[D1_];exact⟨vc,rfl,Hc_ hpre hnp⟩
     . simp only[Gm_ _ _ _ _ e];trivial⟩
   refine I3_ (λe F' H' L' hq=>?_) h1
   obtain⟨s',ha',hq',q,hq1,hq2,hq3⟩:=hq
   obtain⟨he,v,hr,hv⟩:=Ng_ (N:=N) ht ha' hq'
   have h3:=ha'.l 0
   rw[hq1] at h3
   obtain⟨vc',hL',hsv⟩:=h3
   rcases he with rfl|rfl
   . exact⟨v,hr,ha'.le,_,hL',vc',rfl,hv,hq3 _ _ hsv.sims⟩
   . exact⟨v,hr,ha'.le,_,hL',vc',rfl,hv,hq3 _ _ hsv.sims⟩
 exact (key N L w i hL hm).mono λ_ _ ⟨v,H',o',h1,⟨vc',h5,h6,h7⟩,h3,h4⟩=>⟨v,H',vc',h1,h6,h7,h3,by rw[<- h5];exact h4⟩
theorem ecally {f:FuncId} {arg:PV} {args pre post:List PV} {res:PV} {as0:Array Operand} {ats:Array TypeId} {i b b' T0 off:Nat} (h:Fy P H0.g f arg args T0 pre res post) (ha:argsP s.F x as0.toList=some (f,arg :: .own i b off::args)) (hoff:off=0) (hb:s.L i = .box b' T0 pre) (hbb:b'=b) (hd:Nat.blt d n=true) (k:res.wf->PV.wfs post->K ⟨updp s.F d res,lups s.L i (.box b T0 post)⟩):E1 P n N H0 all ⟨some d, .call ⟨.value x,as0,ats⟩,ty,pos,af,none⟩ (some i) s K:=by
 intro F H L hab
 subst hoff;subst hbb
 obtain⟨us,h1,h2⟩:=Ih_ (ats:=ats) hab.f ha h.cb
 obtain⟨v1,us1,rfl,g3,g4⟩:=h1.inv_cons
 obtain⟨v0,vs,rfl,h3,h4⟩:=g4.inv_cons
 have h5:=h3.inv_own
 subst h5
 have h6:=hab.l i
 rw[hb] at h6
 obtain⟨vc,hL,hsv⟩:=h6
 intro a w hA hm
 rw[if_pos (by simp[Region.wanted])]
 unfold Oper.wp
 rw[hA.eval,h2]
 refine (h.run N H L w b' i v1 vs vc hab.g g3 h4 hL hsv.sims hm).mono λe' w' ⟨v,H',vc',he,hv,hp,hl,hm'⟩=>?_
 subst he
 refine⟨_,H',_,hA.put (by simpa using hd) v,hm',hl,only,_,Abs.put (p:=res) ((hab.mono hl).turnB (B:= .box b' T0 post) i trivial ⟨vc',rfl,Hc_ hp h.np⟩) d (hv.simT h.no),k hv.wf hp.wf⟩
end Go.SW
namespace Go.SW.V
open Go.SW
variable {P:Program} {n:Nat} {N:Rest} {H0:Env} {all rest:List Oper} {Q:Qs} {ks:List Kt} {fF:Nat->PV} {fL:Nat->Blk} {T ty d:Nat} {pos:String} {af:Array Edge} {x:Operand} {K:St->Prop}
theorem ecally {f:FuncId} {arg:PV} {args pre post:List PV} {res:PV} {as0:Array Operand} {ats:Array TypeId} {i b b' T0 off:Nat} (h:Fy P H0.g f arg args T0 pre res post) (ha:argsP fF x as0.toList=some (f,arg :: .own i b off::args)) (hoff:off=0) (hb:fL i = .box b' T0 pre) (hbb:b'=b) (hd:Nat.blt d n=true) (k:res.wf->PV.wfs post->K ⟨updp fF d res,lups fL i (.box b T0 post)⟩):E1 P n N H0 all ⟨some d, .call ⟨.value x,as0,ats⟩,ty,pos,af,none⟩ (some i) ⟨fF,fL⟩ K:=SW.ecally (s:=⟨fF,fL⟩) h ha hoff hb hbb hd k
end Go.SW.V
namespace Go.SW.V
open Go.SW
theorem binds_id (b:Ap_):D8_ b=b.binds:=U6_ b
theorem shops_f {b:Ap_} (h:BkOk b) (h2:BkB b):(Fo_ b).length<=8/\∀ s∈Fo_ b,Jy_ s=0:=⟨h.1,λs hs=>(h2.1 s hs).1⟩
theorem binds_f {b:Ap_} (h:BkOk b) (h2:BkB b):(D8_ b).length<=32/\∀ s∈D8_ b,BiB s:=by
 rw[binds_id];exact⟨h.2.1,h2.2⟩
theorem bib_f {y:Q_} (h:BiB y):y.A9_.length<=16/\y.to'.length<=16/\y.key.length<=64:=⟨h.1,M8_ h.2.1,h.2.2.1⟩
theorem Xp_ (s:D_) (q:U_):(Al_ s q).2=0->0<(Al_ s q).1.rows.length:=by
 unfold Al_ lt
 let R:D_×Int->Prop:=λr=>r.2=0->0<r.1.rows.length
 refine bt (P:=R) (λe h=>?_) λ_=>bt (P:=R) (λe _=>?_) λ_=>bt (P:=R) (λ_ h=>by cases h) λ_=>bt (P:=R) (λ_ h=>by cases h) λ_ _=>?_
 . simp only[Bool.not_eq_true',decide_eq_false_iff_not] at e
   exact (e h).elim
 . simp only[Bool.and_eq_true,decide_eq_true_eq] at e
   have :=at_b s q.name;have :=e.1
   show 0<s.rows.length
   omega
 . simp
def Fy_ (x:Aa_):Nat->Nat->Out->Bs
 |0,_,_=>default
 | f4+1,v1,x4=>(bif decide ((v1:Int)<8) then
 Fy_ x f4 (v1+1) (B_ (B_ x4 ((A8.get x.spent v1).round) 8) (IntKind.wrap .u64 ((A8.get x.spent v1).count)) 1)
 else x4.s)
def Gk_ (x:Aa_):Nat->Nat->Out->Bs
 |0,_,_=>default
 | f5+1,v,x3=>(bif decide ((v:Int)<16) then
 Gk_ x f5 (v+1) (B_ x3 (A16.get x.seen v) 8)
 else Fy_ x (8-0+1) 0 x3)
def D4_ (x:Aa_):List Q_->Out->Bs
 |[],x2=>lt (S_ x.G_) λr2=>
 Gk_ x (16-0+1) 0 (Ao_ (Ao_ (B_ x2 (r2.length:Int) 4) r2) (C9_ x.notes))
 |x5::t,x2=>D4_ x t (B_ (Ao_ (H_ (B_ (H_ (H_ x2 (x5.A9_)) (x5.to')) (E5_ (x5.up)) 1) (x5.key)) (Bg_ (x5.want))) (E5_ (x5.all)) 1)
def Ev_ (x:Aa_) (r1:(List Q_)):List W_->Out->Bs
 |[],x1=>D4_ x r1 (B_ x1 (r1.length:Int) 1)
 |x6::t1,x1=>Ev_ x r1 t1 (H_ (B_ (H_ x1 (x6.name)) (x6.sort) 1) (x6.to'))
def Ca_ (x:Aa_):Bs:=
 lt (Fo_ x.book) λr=>
 lt (D8_ x.book) λr1=>
 Ev_ x r1 r (B_ (⟨[],0⟩:Out) (r.length:Int) 1)
def A1_ (s:D_) (r:Bs×In) (r1:Int×In) (r2:Int×In) (r3:Bs×In):Nat->List K_->Int->In->D_×In
 |0,_,_,_=>default
 | f2+1,items,n,x=>(bif ((decide (0<n))&&(decide (x.err=0))) then
 lt (Y_ x 1) λr5=>
 lt (Dz_ r5.2) λr6=>
 (bif ((decide (3<r5.1))||((!decide (s.next = 0))&&(decide (s.next <= r6.1.id)))) then
 A1_ s r r1 r2 r3 f2 (items++[(⟨r6.1,decide ((r5.1%2)=1),decide ((r5.1/2)=1)⟩:K_)]) (IntKind.wrap .u64 (n-1)) (Bl_ r6.2 4)
 else A1_ s r r1 r2 r3 f2 (items++[(⟨r6.1,decide ((r5.1%2)=1),decide ((r5.1/2)=1)⟩:K_)]) (IntKind.wrap .u64 (n-1)) r6.2)
 else lt (M1_ items) λr7=>
 (lt1 ((bif ((decide (r1.1<(IntKind.wrap .u64 (Ea_ r7.1))))||(decide (0<=(I_ s r.1)))) then
 (Bl_ (Bl_ x r7.2) 4)
 else (Bl_ x r7.2))) (λx1=>
 lt (Al_ s (⟨r.1,r1.1,r2.1,r3.1⟩:U_)) λr8=>
 (bif decide (((Bl_ x1 r8.2).err)=0) then
 lt (Ab_ r8.1 ((r8.1.rows.length:Int)-1) r7.1) λr9=>
 (r9,(Bl_ x1 r8.2))
 else (r8.1,(Bl_ x1 r8.2))))))
def Cc_ (s:D_) (i:In):D_×In:=
 lt (X_ i 16) λr=>
 lt (Y_ r.2 8) λr1=>
 lt (Y_ r1.2 8) λr2=>
 lt (X_ r2.2 16) λr3=>
 lt (Y_ r3.2 1) λr4=>
 A1_ s r r1 r2 r3 ((r4.1).toNat+1) [] r4.1 r4.2
theorem stk_def:StkOk default/\RoB default:=⟨Z7_ 0 0 (by decide),λ_ h=>by cases h⟩
theorem rob_make {s:D_} {q:U_} (h:RoB s):RoB (Al_ s q).1:=cloB.km h
theorem Wq_ {s:D_} (hs:StkOk s) (hq:RoB s) (r:Bs×In) (r1 r2:Int×In) (r3:Bs×In):∀ (f:Nat) (items:List K_) (n:Int) (x:In),(∀ y∈items,MlOk y.Z_)->StkOk (A1_ s r r1 r2 r3 f items n x).1/\RoB (A1_ s r r1 r2 r3 f items n x).1
 |0,_,_,_,_=>stk_def
 |f+1,items,n,x,hi=>by
   rw[A1_]
   let R:D_×In->Prop:=λy=>StkOk y.1/\RoB y.1
   refine bt (P:=R) (λ_=>?_) λ_=>?_
   . have h1:=mls_app (x:=(⟨(Dz_ (Y_ x 1).2).1,decide (((Y_ x 1).1%2)=1),decide (((Y_ x 1).1/2)=1)⟩:K_)) hi (Me_ (Y_ x 1).2)
     unfold lt
     exact bt (P:=R) (λ_=>Wq_ hs hq r r1 r2 r3 f _ _ _ h1) λ_=>Wq_ hs hq r r1 r2 r3 f _ _ _ h1
   . unfold lt lt1
     refine bt (P:=R) (λe=>?_) λ_=>⟨Mb_ hs,rob_make hq⟩
     simp only[decide_eq_true_eq] at e
     have h2:=Xp_ s _ (Q8_ e).2
     exact⟨Mc_ (Mb_ hs) (lof_ok hi) (by omega),N1_ (rob_make hq)⟩
theorem rrow_ok {s:D_} (hs:StkOk s) (hq:RoB s) (i:In):StkOk (Cc_ s i).1/\RoB (Cc_ s i).1:=by
 unfold Cc_ lt
 exact Wq_ hs hq _ _ _ _ _ _ _ _ mls_nil
theorem knew_f (b n:Int) (h:n<=1000000):StkOk (B1_ b n)/\RoB (B1_ b n):=⟨Z7_ b n h,λ_ h=>by cases h⟩
theorem lput_fwd {l:Ac_} {x:K_} (hm:F7_ x.Z_=0) (hl:l.items.length<64) (hr:∀ y∈l.items,y.Z_.id<x.Z_.id):Eb_ l x=(⟨l.items++[x]⟩,0):=by
 have hc:Ez_ l x.Z_=0:=by
   unfold Ez_
   have e1:decide (F7_ x.Z_=0)=true:=decide_eq_true hm
   rw[e1]
   simp only[Bool.not_true,cond_false]
   have e2:((decide (0<(l.items.length:Int)))&&(decide (x.Z_.id<=((gt l.items ((((l.items.length:Int)-1)).toNat)).Z_.id))))=false:=by
     rw[Bool.and_eq_false_iff,decide_eq_false_iff_not,decide_eq_false_iff_not]
     by_cases q:0<(l.items.length:Int)
     . right
       have :=hr _ (H3_ (xs:=l.items) (k:=((l.items.length:Int)-1).toNat) (by omega))
       omega
     . exact .inl q
   have e3:decide (64<=(l.items.length:Int))=false:=decide_eq_false (by omega)
   rw[e2,e3];rfl
 unfold Eb_
 rw[lt,hc]
 simp[B3_,lt,L_]
theorem lof_fwd0:∀ (t:List K_) (l:Ac_),Oe_ (l.items++t)->(l.items++t).length<=64->(∀ x∈t,F7_ x.Z_=0)->F9_ t l=(⟨l.items++t⟩,0)
 |[],l,_,_,_=>by rw[F9_];simp
 |x::t,l,hr,hl,hm=>by
   have h1:∀ y∈l.items,y.Z_.id<x.Z_.id:=λy hy=>by
     have :=hr
     unfold Oe_ at this
     rw[List.map_append,List.map_cons,List.pairwise_append] at this
     exact this.2.2 y.Z_.id (List.mem_map.2 ⟨y,hy,rfl⟩) x.Z_.id (by simp)
   simp only[List.length_append,List.length_cons] at hl
   rw[F9_,lt,lput_fwd (hm x (by simp)) (by omega) h1]
   simp only[decide_true,Bool.not_true,cond_false]
   rw[lof_fwd0 t ⟨l.items++[x]⟩ (by simpa using hr) (by simp only[List.length_append,List.length_cons,List.length_nil];omega) (λy hy=>hm y (by simp[hy]))]
   simp
theorem lof_fwd {l:Ac_} (h:LnOk l) (hm:∀ x∈l.items,F7_ x.Z_=0):M1_ l.items=(l,0):=by
 unfold M1_
 rw[lof_fwd0 l.items ⟨[]⟩ (by simpa using h.2.2) (by simpa using h.1) hm]
 rfl
theorem flag_r (x:K_):0<=Dd_ x/\Dd_ x<=3:=by
 have h3:IntKind.wrap .u64 (1+2)=3:=by decide
 have h2:IntKind.wrap .u64 (0+2)=2:=by decide
 unfold Dd_
 rw[h2,h3]
 cases x.Sx_<;>cases x.again<;>decide
theorem flag_back (x:K_):(⟨x.Z_,decide ((Dd_ x%2)=1),decide ((Dd_ x/2)=1)⟩:K_)=x:=by
 have h3:IntKind.wrap .u64 (1+2)=3:=by decide
 have h2:IntKind.wrap .u64 (0+2)=2:=by decide
 obtain⟨m,a,b⟩:=x
 unfold Dd_
 rw[h2,h3]
 cases a<;>cases b<;>rfl
def ItF (next :Int) (x:K_):Prop:=MlF x.Z_/\(next = 0\/x.Z_.id < next)
theorem Xl_ (s:D_) (r:Bs×In) (r1 r2:Int×In) (r3:Bs×In) (rest:Bs):∀ (t:List K_) (f:Nat) (acc:List K_),t.length<f->t.length<=255->(∀ x∈t,ItF s.next x)->A1_ s r r1 r2 r3 f acc (t.length:Int) ⟨t.flatMap Mp_++rest,0⟩=A1_ s r r1 r2 r3 1 (acc++t) 0 ⟨rest,0⟩
 |_,0,_,h,_,_=>by omega
 |[],f+1,acc,_,_,_=>by
   rw[A1_.eq_2,A1_.eq_2]
   simp
 |x::t,f+1,acc,hf,hl,hx=>by
   obtain⟨h1,h2⟩:=hx x (by simp)
   simp only[List.length_cons] at hf hl
   have hfl:=flag_r x
   have e1:Y_ ⟨(x::t).flatMap Mp_++rest,0⟩ 1=(Dd_ x,⟨Bm_ x.Z_++(t.flatMap Mp_++rest),0⟩):=by
     rw[List.flatMap_cons,Mp_]
     simp only[List.append_assoc]
     exact Kb_ hfl.1 (by omega)
   have e2:Dz_ ⟨Bm_ x.Z_++(t.flatMap Mp_++rest),0⟩=(x.Z_,⟨t.flatMap Mp_++rest,0⟩):=mail_fwd h1
   rw[A1_.eq_2]
   have e:decide (0<(((x::t).length:Nat):Int))=true:=decide_eq_true (by simp only[List.length_cons];omega)
   rw[e]
   simp only[decide_true,Bool.and_true,cond_true]
   rw[lt,e1,lt,e2]
   have c1:decide (3<Dd_ x)=false:=decide_eq_false (by omega)
   have c2:((!decide (s.next = 0))&&(decide (s.next <= x.Z_.id)))=false:=by
     rw[Bool.and_eq_false_iff,Bool.not_eq_false',decide_eq_true_eq,decide_eq_false_iff_not]
     rcases h2 with q|q
     . exact .inl q
     . exact .inr (by omega)
   rw[c1,c2]
   simp only[Bool.or_false,cond_false]
   have hw:IntKind.wrap .u64 ((((x::t).length:Nat):Int)-1)=(t.length:Int):=by
     rw[Ch_ (by simp only[List.length_cons];omega) (by simp only[List.length_cons];omega)]
     simp only[List.length_cons];omega
   rw[hw,flag_back,Xl_ s r r1 r2 r3 rest t f (acc++[x]) (by omega) (by omega) (λy hy=>hx y (by simp[hy]))]
   simp
def Gn_:Nat->Int->In->D_->In×D_
 |0,_,_,_=>default
 | f4+1,n1,x4,x5=>(bif ((decide (0<n1))&&(decide (x4.err=0))) then
 lt (Y_ x4 1) λr5=>
 lt (Ic_ r5.2) λr6=>
 (bif decide (16<=r5.1) then
 ((Bl_ r6.2 4),x5)
 else Gn_ f4 (IntKind.wrap .u64 (n1-1)) r6.2 (⟨x5.next,x5.bytes,x5.rows,(A16.set x5.rises r6.1 ((r5.1).toNat))⟩:D_))
 else (x4,x5))
def Fb_ (text:Bs):Nat->Int->In->D_->D_×Int
 |0,_,_,_=>default
 | f5+1,n,x,x1=>(bif ((decide (0<n))&&(decide (x.err=0))) then
 lt (Cc_ x1 x) λr3=>
 Fb_ text f5 (IntKind.wrap .u64 (n-1)) r3.2 r3.1
 else (lt2 (lt (Y_ x 1) λr4=>
 Gn_ ((r4.1).toNat+1) r4.1 r4.2 x1) (λx2 x3=>
 (bif (((!decide ((Vz_ x2)=0))||(decide ((Dk_ x3)<0)))||(!decide ((S_ x3)=text))) then
 ((⟨0,0,[],(⟨(⟨0,[]⟩:Bc_),(⟨0,[]⟩:Bc_),(⟨0,[]⟩:Bc_),(⟨0,[]⟩:Bc_),(⟨0,[]⟩:Bc_),(⟨0,[]⟩:Bc_),(⟨0,[]⟩:Bc_),(⟨0,[]⟩:Bc_),(⟨0,[]⟩:Bc_),(⟨0,[]⟩:Bc_),(⟨0,[]⟩:Bc_),(⟨0,[]⟩:Bc_),(⟨0,[]⟩:Bc_),(⟨0,[]⟩:Bc_),(⟨0,[]⟩:Bc_),(⟨0,[]⟩:Bc_)⟩:A16_RiseR)⟩:D_),4)
 else (x3,0)))))
def Gs_ (text:Bs) (bytes:Int):D_×Int:=
 lt (Y_ (⟨text,0⟩) 8) λr=>
 lt (B1_ r.1 bytes) λr1=>
 lt (Y_ r.2 1) λr2=>
 Fb_ text ((r2.1).toNat+1) r2.1 r2.2 r1
theorem kof_ok1:∀ (f:Nat) (n:Int) (x:In) (s:D_),StkOk s->RoB s->StkOk (Gn_ f n x s).2/\RoB (Gn_ f n x s).2
 |0,_,_,_,_,_=>stk_def
 |f+1,n,x,s,hs,hq=>by
   rw[Gn_]
   let R:In×D_->Prop:=λy=>StkOk y.2/\RoB y.2
   refine bt (P:=R) (λ_=>?_) λ_=>⟨hs,hq⟩
   unfold lt
   refine bt (P:=R) (λ_=>⟨hs,hq⟩) λe=>?_
   simp only[decide_eq_false_iff_not] at e
   have h0:=(Bs_ x 1).1
   exact kof_ok1 f _ _ _ (hs.set _ (by omega) (rread_ok _)) hq
theorem kof_ok0 (text:Bs):∀ (f:Nat) (n:Int) (x:In) (s:D_),StkOk s->RoB s->StkOk (Fb_ text f n x s).1/\RoB (Fb_ text f n x s).1
 |0,_,_,_,_,_=>stk_def
 |f+1,n,x,s,hs,hq=>by
   rw[Fb_]
   let R:D_×Int->Prop:=λy=>StkOk y.1/\RoB y.1
   refine bt (P:=R) (λ_=>?_) λ_=>?_
   . obtain⟨h1,h2⟩:=rrow_ok hs hq x
     exact kof_ok0 text f _ _ _ h1 h2
   . unfold lt2 lt
     have h3:=kof_ok1 ((Y_ x 1).1.toNat+1) (Y_ x 1).1 (Y_ x 1).2 s hs hq
     exact bt (P:=R) (λ_=>knew_f 0 0 (by decide)) λ_=>h3
theorem kof_ok (text:Bs) (n:Int) (hn:n<=1000000):StkOk (Gs_ text n).1/\RoB (Gs_ text n).1:=by
 unfold Gs_ lt
 obtain⟨h1,h2⟩:=knew_f (Y_ (⟨text,0⟩:In) 8).1 n hn
 exact kof_ok0 text _ _ _ _ h1 h2
def RwF (next :Int) (r:Fd_):Prop:=LnOk r.l/\Bh_ r.q=0/\U64 r.q.most/\U64 r.q.life/\(r.l.items.length:Int)<=r.q.most/\∀ x∈r.l.items,ItF next x
theorem at_none {s:D_} {n:Bs} (h:∀ r∈s.rows,r.q.name≠n):I_ s n<0:=by
 by_cases q:0<=I_ s n
 . have h1:=at_b s n
   exact (h _ (H3_ (xs:=s.rows) (k:=(I_ s n).toNat) (by omega)) (at_n q)).elim
 . omega
theorem make_fwd {s:D_} {q:U_} (hc:Bh_ q=0) (hn:∀ r∈s.rows,r.q.name≠q.name) (hl:s.rows.length<8):Al_ s q=(⟨s.next,s.bytes,s.rows++[⟨q,⟨[]⟩⟩],s.rises⟩,0):=by
 have ha:=at_none hn
 unfold Al_
 rw[lt,hc,lt]
 have e1:decide (0<=I_ s q.name)=false:=decide_eq_false (by omega)
 have e2:decide (8<=(s.rows.length:Int))=false:=decide_eq_false (by omega)
 rw[e1,e2]
 simp
theorem rrow_fwd {s:D_} {r:Fd_} (h:RwF s.next r) (hn:∀ y∈s.rows,y.q.name≠r.q.name) (hl:s.rows.length<8) (rest:Bs):Cc_ s ⟨rowB r++rest,0⟩=(⟨s.next,s.bytes,s.rows++[r],s.rises⟩,⟨rest,0⟩):=by
 obtain⟨h1,h2,h3,h4,h5,h6⟩:=h
 obtain⟨q1,q2,q3,q4⟩:=Rf_ h2
 have h64:=h1.1
 have e1:X_ ⟨rowB r++rest,0⟩ 16=(r.q.name,⟨numB 8 r.q.most.toNat++(numB 8 r.q.life.toNat++(txtB r.q.dead++(numB 1 r.l.items.length++(r.l.items.flatMap Mp_++rest)))),0⟩):=by
   rw[rowB]
   simp only[List.append_assoc]
   exact Li_ (by omega) (by omega)
 have e2:Y_ ⟨numB 8 r.q.most.toNat++(numB 8 r.q.life.toNat++(txtB r.q.dead++(numB 1 r.l.items.length++(r.l.items.flatMap Mp_++rest)))),0⟩ 8=(r.q.most,⟨numB 8 r.q.life.toNat++(txtB r.q.dead++(numB 1 r.l.items.length++(r.l.items.flatMap Mp_++rest))),0⟩):=Hb_ h3.1 (by have :=h3.2;omega)
 have e3:Y_ ⟨numB 8 r.q.life.toNat++(txtB r.q.dead++(numB 1 r.l.items.length++(r.l.items.flatMap Mp_++rest))),0⟩ 8=(r.q.life,⟨txtB r.q.dead++(numB 1 r.l.items.length++(r.l.items.flatMap Mp_++rest)),0⟩):=Hb_ h4.1 (by have :=h4.2;omega)
 have e4:X_ ⟨txtB r.q.dead++(numB 1 r.l.items.length++(r.l.items.flatMap Mp_++rest)),0⟩ 16=(r.q.dead,⟨numB 1 r.l.items.length++(r.l.items.flatMap Mp_++rest),0⟩):=Li_ (by omega) (by omega)
 have e5:Y_ ⟨numB 1 r.l.items.length++(r.l.items.flatMap Mp_++rest),0⟩ 1=((r.l.items.length:Int),⟨r.l.items.flatMap Mp_++rest,0⟩):=H7_ (by omega)
 unfold Cc_
 rw[lt,e1,lt,e2,lt,e3,lt,e4,lt,e5]
 dsimp only
 rw[Xl_ s _ _ _ _ rest r.l.items _ [] (by omega) (by omega) h6,A1_.eq_2]
 have c1:decide ((0:Int)<0)=false:=by decide
 rw[c1]
 simp only[Bool.false_and,cond_false,List.nil_append]
 rw[lt,lof_fwd h1 (λx hx=>(h6 x hx).1.2.2),lt1]
 have hw:IntKind.wrap .u64 (Ea_ r.l)=(r.l.items.length:Int):=Ch_ (show (0:Int)<=(r.l.items.length:Int) by omega) (show (r.l.items.length:Int)<=_ by omega)
 have ha:=at_none hn
 have c2:decide (r.q.most<(r.l.items.length:Int))=false:=decide_eq_false (by omega)
 have c3:decide (0<=I_ s r.q.name)=false:=decide_eq_false (by omega)
 dsimp only
 rw[hw,c2,c3]
 simp only[Bool.or_false,cond_false,Q7_]
 rw[lt,show (⟨r.q.name,r.q.most,r.q.life,r.q.dead⟩:U_)=r.q from rfl,make_fwd h2 hn hl]
 simp only[Q7_,decide_true,cond_true]
 rw[lt]
 unfold Ab_
 dsimp only
 have hk:(((s.rows++[(⟨r.q,⟨[]⟩⟩:Fd_)]).length:Int)-1).toNat=s.rows.length:=by simp
 rw[hk]
 have hg:gt (s.rows++[(⟨r.q,⟨[]⟩⟩:Fd_)]) s.rows.length=⟨r.q,⟨[]⟩⟩:=by simp[gt]
 rw[hg]
 simp
def KF (s:D_):Prop:=StkOk s/\RoB s/\U64 s.next /\ (∀ r∈s.rows,RwF s.next r)/\∀ i,i<16->RiF (A16.get s.rises i)
theorem rows_fwd (text:Bs) (rest:Bs):∀ (t:List Fd_) (f:Nat) (s:D_),t.length<f->s.rows.length+t.length<=8->(∀ r∈t,RwF s.next r)->((s.rows++t).map (·.q.name)).Nodup->Fb_ text f (t.length:Int) ⟨t.flatMap rowB++rest,0⟩ s=Fb_ text 1 0 ⟨rest,0⟩ ⟨s.next,s.bytes,s.rows++t,s.rises⟩
 |_,0,_,h,_,_,_=>by omega
 |[],f+1,s,_,_,_,_=>by
   rw[Fb_.eq_2,Fb_.eq_2]
   simp
 |r::t,f+1,s,hf,hl,hr,hn=>by
   simp only[List.length_cons] at hf hl
   have hn1:∀ y∈s.rows,y.q.name≠r.q.name:=λy hy=>by
     rw[List.map_append,List.nodup_append] at hn
     exact hn.2.2 y.q.name (List.mem_map.2 ⟨y,hy,rfl⟩) r.q.name (by simp)
   have e1:Cc_ s ⟨(r::t).flatMap rowB++rest,0⟩=(⟨s.next,s.bytes,s.rows++[r],s.rises⟩,⟨t.flatMap rowB++rest,0⟩):=by
     rw[List.flatMap_cons,List.append_assoc]
     exact rrow_fwd (hr r (by simp)) hn1 (by omega) _
   rw[Fb_.eq_2]
   have e:decide (0<(((r::t).length:Nat):Int))=true:=decide_eq_true (by simp only[List.length_cons];omega)
   rw[e]
   simp only[decide_true,Bool.and_true,cond_true]
   rw[lt,e1]
   have hw:IntKind.wrap .u64 ((((r::t).length:Nat):Int)-1)=(t.length:Int):=by
     rw[Ch_ (by simp only[List.length_cons];omega) (by simp only[List.length_cons];omega)]
     simp only[List.length_cons];omega
   rw[hw,rows_fwd text rest t f ⟨s.next,s.bytes,s.rows++[r],s.rises⟩ (by omega) (by simp only[List.length_append,List.length_cons,List.length_nil];omega) (λy hy=>hr y (by simp[hy])) (by simpa using hn)]
   simp
theorem ups_fwd (a:A16_RiseR) (ha:∀ i,i<16->RiF (A16.get a i)):∀ (n f:Nat) (s:D_),n<=16->upN a n<f->(∀ i,i<16->A16.get s.rises i = if i<16-n then A16.get a i else ⟨0,[]⟩)->∃ z:A16_RiseR,(∀ i,i<16->A16.get z i=A16.get a i)/\Gn_ f (upN a n:Int) ⟨upB a n,0⟩ s=(⟨[],0⟩,⟨s.next,s.bytes,s.rows,z⟩)
 |0,f,s,_,hf,h=>by
   refine⟨s.rises,λi hi=>by rw[h i hi,if_pos (by omega)],?_⟩
   obtain⟨g,rfl⟩:∃ g,f=g+1:=⟨f-1,by omega⟩
   rw[Gn_]
   simp[upN,upB]
 |n+1,f,s,hn,hf,h=>by
   by_cases q:0<(A16.get a (15-n)).total
   . rw[upN,if_pos q] at hf ⊢
     rw[upB,if_pos q]
     obtain⟨g,rfl⟩:∃ g,f=g+1:=⟨f-1,by omega⟩
     have hle:=upN_le a n
     have e1:Y_ ⟨(numB 1 (15-n)++Bv_ (A16.get a (15-n)))++upB a n,0⟩ 1=(((15-n:Nat):Int),⟨Bv_ (A16.get a (15-n))++upB a n,0⟩):=by
       rw[List.append_assoc]
       exact H7_ (by omega)
     obtain ⟨z,hz1,hz2⟩:=ups_fwd a ha n g ⟨s.next,s.bytes,s.rows,A16.set s.rises (A16.get a (15-n)) (15-n)⟩ (by omega) (by omega) (λi hi=>by
       show A16.get (A16.set s.rises (A16.get a (15-n)) (15-n)) i=_
       rw[A16.get_set _ _ _ _ (by omega) hi]
       by_cases q2:i=15-n
       . subst q2
         rw[if_pos rfl,if_pos (by omega)]
       . rw[if_neg (by omega),h i hi]
         by_cases q3:i<16-(n+1)
         . rw[if_pos q3,if_pos (by omega)]
         . rw[if_neg q3,if_neg (by omega)])
     refine⟨z,hz1,?_⟩
     rw[Gn_]
     have e:decide (0<((1+upN a n:Nat):Int))=true:=decide_eq_true (by omega)
     rw[e]
     simp only[decide_true,Bool.and_true,cond_true]
     rw[lt,e1,lt,rread_fwd (ha _ (by omega))]
     have e3:decide (16<=((15-n:Nat):Int))=false:=decide_eq_false (by omega)
     dsimp only
     rw[e3,cond_false]
     have hw:IntKind.wrap .u64 (((1+upN a n:Nat):Int)-1)=(upN a n:Int):=by
       rw[Ch_ (by omega) (by omega)];omega
     rw[hw]
     exact hz2
   . rw[upN,if_neg q,Nat.zero_add] at hf ⊢
     rw[upB,if_neg q,List.nil_append]
     refine ups_fwd a ha n f s (by omega) hf (λi hi=>?_)
     rw[h i hi]
     by_cases q2:i<16-(n+1)
     . rw[if_pos q2,if_pos (by omega)]
     . rw[if_neg q2]
       by_cases q3:i<16-n
       . rw[if_pos q3]
         have hi2:i=15-n:=by omega
         subst hi2
         obtain⟨h1,h2,_⟩:=ha (15-n) (by omega)
         generalize A16.get a (15-n)=w at q h1 h2
         obtain⟨t,l⟩:=w
         have ht:t=0:=by have :=h1.1;simp only at this q;omega
         subst ht
         have hl:l=[]:=List.length_eq_zero_iff.1 (by simp only at h2;omega)
         rw[hl]
       . rw[if_neg q3]
theorem a16_ext {α:Type} {a b:A16 α} (h:∀ i,i<16->A16.get a i=A16.get b i):a=b:=by
 have h0:=h 0 (by decide);have h1:=h 1 (by decide);have h2:=h 2 (by decide);have h3:=h 3 (by decide)
 have h4:=h 4 (by decide);have h5:=h 5 (by decide);have h6:=h 6 (by decide);have h7:=h 7 (by decide)
 have h8:=h 8 (by decide);have h9:=h 9 (by decide);have h10:=h 10 (by decide);have h11:=h 11 (by decide)
 have h12:=h 12 (by decide);have h13:=h 13 (by decide);have h14:=h 14 (by decide);have h15:=h 15 (by decide)
 obtain⟨a0,a1,a2,a3,a4,a5,a6,a7,a8,a9,a10,a11,a12,a13,a14,a15⟩:=a
 obtain⟨b0,b1,b2,b3,b4,b5,b6,b7,b8,b9,b10,b11,b12,b13,b14,b15⟩:=b
 have h0:a0=b0:=h0;have h1:a1=b1:=h1;have h2:a2=b2:=h2;have h3:a3=b3:=h3
 have h4:a4=b4:=h4;have h5:a5=b5:=h5;have h6:a6=b6:=h6;have h7:a7=b7:=h7
 have h8:a8=b8:=h8;have h9:a9=b9:=h9;have h10:a10=b10:=h10;have h11:a11=b11:=h11
 have h12:a12=b12:=h12;have h13:a13=b13:=h13;have h14:a14=b14:=h14;have h15:a15=b15:=h15
 subst h0 h1 h2 h3 h4 h5 h6 h7 h8 h9 h10 h11 h12 h13 h14 h15
 rfl
theorem new_rise (b n:Int):∀ i,i<16->A16.get (B1_ b n).rises i=⟨0,[]⟩:=λi hi=>by
 unfold B1_ A16.get
 repeat' split
 all_goals rfl
theorem kof_fwd {s:D_} {b:Int} (h:KF s) (hb:s.bytes=max 0 b) (hr:0<=Dk_ s):Gs_ (S_ s) b=(s,0):=by
 obtain⟨hs,hq,hn,hw,hi⟩:=h
 have h8:=hs.1.1
 have hup:=upN_le s.rises 16
 have e1:Y_ ⟨S_ s,0⟩ 8=(s.next,⟨numB 1 s.rows.length++(s.rows.flatMap rowB++(numB 1 (upN s.rises 16)++upB s.rises 16)),0⟩):=by
   rw[ke hs hq]
   exact Hb_ hn.1 (by have :=hn.2;omega)
 have e2:Y_ ⟨numB 1 s.rows.length++(s.rows.flatMap rowB++(numB 1 (upN s.rises 16)++upB s.rises 16)),0⟩ 1=((s.rows.length:Int),⟨s.rows.flatMap rowB++(numB 1 (upN s.rises 16)++upB s.rises 16),0⟩):=H7_ (by omega)
 have e3:Y_ ⟨numB 1 (upN s.rises 16)++upB s.rises 16,0⟩ 1=((upN s.rises 16:Int),⟨upB s.rises 16,0⟩):=H7_ (by omega)
 unfold Gs_
 rw[lt,e1,lt,lt,e2]
 dsimp only
 have hf:=rows_fwd (S_ s) (numB 1 (upN s.rises 16)++upB s.rises 16) s.rows ((s.rows.length:Int).toNat+1) (B1_ s.next b) (by omega) (by show 0+s.rows.length<=8;omega) hw (show ((([]:List Fd_)++s.rows).map (λr:Fd_=>r.q.name)).Nodup from by simpa using hs.1.2.2)
 rw[hf,Fb_.eq_2]
 have c1:decide ((0:Int)<0)=false:=by decide
 rw[c1]
 simp only[Bool.false_and,cond_false]
 obtain ⟨z,hz1,hz2⟩:=ups_fwd s.rises hi 16 ((upN s.rises 16:Int).toNat+1) ⟨(B1_ s.next b).next,(B1_ s.next b).bytes,(B1_ s.next b).rows++s.rows,(B1_ s.next b).rises⟩ (by omega) (by omega) (λi hi2=>by
   show A16.get (B1_ s.next b).rises i=_
   rw[if_neg (by omega)]
   exact new_rise s.next b i hi2)
 rw[lt2,lt,e3]
 dsimp only
 rw[hz2]
 have hz:z=s.rises:=a16_ext hz1
 have hs2:(⟨(B1_ s.next b).next,(B1_ s.next b).bytes,(B1_ s.next b).rows++s.rows,z⟩:D_)=s:=by
   rw[hz,show (B1_ s.next b).next = s.next from rfl,show (B1_ s.next b).bytes=max 0 b from rfl,<- hb,show (B1_ s.next b).rows=[] from rfl]
   rfl
 dsimp only
 rw[hs2]
 have c2:decide (Vz_ ⟨[],0⟩=0)=true:=by decide
 have c3:decide (Dk_ s<0)=false:=decide_eq_false (by omega)
 rw[c2,c3]
 simp
def Wf (m:Mail):Prop:=(U64 m.id/\U64 m.due/\0<=m.hops/\m.hops<=255)/\∀ p∈m.head,p.wf
theorem wf_of {m:Mail} (h:MlF m):Wf m:=⟨⟨h.1.1,h.1.2.1,h.1.2.2.1.1,h.1.2.2.1.2⟩,h.2.1⟩
theorem mlf_of {m:Mail} (h:Wf m) (e:F7_ m=0):MlF m:=by
 obtain⟨k1,k2,k3,k4,k5⟩:=G1_ e
 have k6:=(Ky_ k3).1
 exact⟨⟨h.1.1,h.1.2.1,⟨h.1.2.2.1,h.1.2.2.2⟩,by omega,by omega,by omega,by omega⟩,h.2,e⟩
theorem u64_0:U64 0:=by constructor<;>decide
def LG (next most:Int) (l:List K_):Prop:=(l.length:Int)<=most/\∀ x∈l,ItF next x
def RG (next :Int) (r:Fd_):Prop:=U64 r.q.most/\U64 r.q.life/\LG next r.q.most r.l.items
def KG (k:D_):Prop:=U64 k.next /\ (∀ r∈k.rows,RG k.next r)/\∀ i,i<16->RiF (A16.get k.rises i)
theorem wf_0:Wf ⟨0,[],[],[],[],0,0⟩:=⟨⟨u64_0,u64_0,by simp,by simp⟩,λ_ h=>by cases h⟩
theorem lg_gt {n m:Int} {l:List K_} (h:LG n m l) {k:Nat} (hk:k<l.length):ItF n (gt l k):=h.2 _ (H3_ hk)
theorem wf_gt {n m:Int} {l:List K_} (h:LG n m l) (k:Nat):Wf (gt l k).Z_:=by
 by_cases q:k<l.length
 . exact wf_of (lg_gt h q).1
 . have :gt l k=default:=by unfold gt;rw[List.getD_eq_getElem?_getD,List.getElem?_eq_none (by omega)];rfl
   rw[this];exact wf_0
theorem Yf_ {n m:Int} {l:List K_} (h:LG n m l) (k:Nat) (a b:Bool):LG n m (l.set k ⟨(gt l k).Z_,a,b⟩):=by
 refine⟨by rw[List.length_set];exact h.1,λx hx=>?_⟩
 by_cases q:k<l.length
 . rcases List.mem_or_eq_of_mem_set hx with e|e
   . exact h.2 x e
   . rw[e];exact lg_gt h q
 . rw[List.set_eq_of_length_le (by omega)] at hx;exact h.2 x hx
theorem lg_rem {n m:Int} {l:Ac_} (h:LG n m l.items) (id:Int):LG n m (Ak_ l id).1.items/\Wf (Ak_ l id).2.1.Z_/\(0<=Bb_ l id->(Ak_ l id).1.items.length+1=l.items.length):=by
 have hb:-1<=Bb_ l id/\Bb_ l id<l.items.length:=Hg_ _ _
 unfold Ak_ lt
 let Q:Ac_×K_×Int->Prop:=λr=>LG n m r.1.items/\Wf r.2.1.Z_/\(0<=Bb_ l id->r.1.items.length+1=l.items.length)
 refine bt (P:=Q) (λe=>⟨h,wf_0,λq=>?_⟩) λe=>?_
 . simp only[decide_eq_true_eq] at e
   omega
 . simp only[decide_eq_false_iff_not] at e
   have hl:([l.items.take (Bb_ l id).toNat,l.items.drop (Bb_ l id+1).toNat].flatten).length+1=l.items.length:=by
     simp only[List.flatten_cons,List.flatten_nil,List.append_nil,List.length_append,List.length_take,List.length_drop]
     omega
   exact⟨⟨by have :=h.1;show ((([l.items.take (Bb_ l id).toNat,l.items.drop (Bb_ l id+1).toNat].flatten).length:Nat):Int)<=m;omega,λx hx=>h.2 x (Yt_ hx)⟩,wf_gt h _,λ_=>hl⟩
theorem wf_told {n m:Int} {l:Ac_} (h:LG n m l.items) (k:Int):Wf (C0_ l k).1:=by
 unfold C0_ lt
 let Q:Mail×Bool->Prop:=λr=>Wf r.1
 exact bt (P:=Q) (λ_=>wf_0) λ_=>wf_gt h _
theorem lg_lend {n m:Int} {l:Ac_} (h:LG n m l.items):LG n m (Cz_ l).1.items:=by
 unfold Cz_ lt
 let Q:Ac_×K_×Bool->Prop:=λr=>LG n m r.1.items
 exact bt (P:=Q) (λ_=>h) λ_=>Yf_ h _ _ _
theorem lg_back {n m:Int} {l:Ac_} (h:LG n m l.items) (id:Int):LG n m (D7_ l id).1.items:=by
 unfold D7_ lt
 let Q:Ac_×Int->Prop:=λr=>LG n m r.1.items
 exact bt (P:=Q) (λ_=>h) λ_=>bt (P:=Q) (λ_=>h) λ_=>Yf_ (Yf_ h _ _ _) _ _ _
theorem Wb_ {n m:Int}:∀ (t:List K_) (k:Nat) (x:Ac_),LG n m x.items->LG n m (B6_ t k x).items
 |[],_,_,h=>h
 |y::t,k,x,h=>by
   unfold B6_
   let Q:Ac_->Prop:=λr=>LG n m r.items
   exact bt (P:=Q) (λ_=>Wb_ t _ _ (Yf_ (Yf_ h _ _ _) _ _ _)) λ_=>Wb_ t _ _ h
theorem first_of {l:Ac_} (h:(Cl_ l).2=true):0<=Bb_ l (Cl_ l).1.id:=by
 unfold Cl_ lt C0_ lt at h ⊢
 have hb:-1<=Cf_ l/\Cf_ l<l.items.length:=Hg_ _ _
 cases e:decide (Cf_ l<0) with
 |true=>rw[e] at h;cases h
 |false=>
   rw[decide_eq_false_iff_not] at e
   simp only[cond_false]
   by_cases q:0<=Bb_ l (L_ (gt l.items (Cf_ l).toNat).Z_).id
   . exact q
   . have h0:Bb_ l (L_ (gt l.items (Cf_ l).toNat).Z_).id<0:=by omega
     have h1:=O7_ (p:=λz_4:K_=>(Md_ z_4 (L_ (gt l.items (Cf_ l).toNat).Z_).id)) (l:=l.items) h0
     have h2:=List.find?_eq_none.1 h1 _ (H3_ (xs:=l.items) (k:=(Cf_ l).toNat) (by omega))
     exact (h2 (by simp[Md_,L_])).elim
theorem lg_add {n m:Int} {l:Ac_} {x:Mail} (h:LG n m l.items) (hl:(l.items.length:Int)<m) (hx:ItF n ⟨x,false,false⟩):LG n m (Cn_ l x).1.items:=by
 unfold Cn_ Eb_ lt
 let Q:Ac_×Int->Prop:=λr=>LG n m r.1.items
 refine bt (P:=Q) (λ_=>h) λ_=>?_
 refine⟨?_,λy hy=>?_⟩
 . show ((([l.items,[B3_ ⟨x,false,false⟩]].flatten).length:Nat):Int)<=m
   simp only[List.flatten_cons,List.flatten_nil,List.append_nil,List.length_append,List.length_cons,List.length_nil]
   omega
 . rcases M7_ hy with q|q
   . exact h.2 y q
   . rw[q];exact hx
theorem Ul_ {k:D_} (h:KG k) {i:Nat} (hi:i<k.rows.length):RG k.next (gt k.rows i):=h.2.1 _ (H3_ hi)
theorem Sh_ {k:D_} (h:KG k) {i:Int} (hi:0<=i/\i<k.rows.length) {l:Ac_} (hl:LG k.next (gt k.rows i.toNat).q.most l.items):KG (Ab_ k i l):=by
 refine⟨h.1,λr hr=>?_,h.2.2⟩
 rcases List.mem_or_eq_of_mem_set hr with e|e
 . exact h.2.1 r e
 . rw[e]
   have :=Ul_ h (i:=i.toNat) (by omega)
   exact⟨this.1,this.2.1,hl⟩
theorem itf_up {n:Int} {x:K_} (hu:U64 n) (hn:n≠0) (h:ItF n x):ItF (IntKind.wrap .u64 (n+1)) x:=by
 refine⟨h.1,?_⟩
 have h2:x.Z_.id<n:=by rcases h.2 with q|q;exact (hn q).elim;exact q
 have h4:=hu.2
 by_cases q:n+1<=18446744073709551615
 . right
   rw[Ch_ (by have :=hu.1;omega) q];omega
 . left
   have :n=18446744073709551615:=by omega
   subst this;decide
theorem mailC_id (m:Mail) (a:Int):F7_ ⟨a,m.A9_,m.key,m.head,m.body,m.due,m.hops⟩=F7_ m:=rfl
theorem kg_next {k:D_} (hn:k.next ≠ 0) (h:KG k) (hu:IntKind.wrap .u64 (k.next + 1)=IntKind.wrap .u64 (k.next + 1)):KG ⟨IntKind.wrap .u64 (k.next + 1),k.bytes,k.rows,k.rises⟩:=by
 refine⟨Go_ _,λr hr=>?_,h.2.2⟩
 obtain⟨h1,h2,h3,h4⟩:=h.2.1 r hr
 exact⟨h1,h2,h3,λx hx=>itf_up h.1 hn (h4 x hx)⟩
theorem kg_put {k:D_} (h:KG k) (hn:k.next ≠ 0) {i:Int} (hi:0<=i/\i<k.rows.length) {l:Ac_} (hl:LG (IntKind.wrap .u64 (k.next + 1)) (gt k.rows i.toNat).q.most l.items):KG ⟨IntKind.wrap .u64 (k.next + 1),(Ab_ k i l).bytes,(Ab_ k i l).rows,(Ab_ k i l).rises⟩:=
 Sh_ (k:=⟨IntKind.wrap .u64 (k.next + 1),k.bytes,k.rows,k.rises⟩) (kg_next hn h rfl) hi hl
theorem kg_wake0:∀ (t:List Fd_) (k:Nat) (x:D_),(∀ (j:Nat) (r:Fd_),t[j]? = some r->k+j<x.rows.length/\(gt x.rows (k+j)).q=r.q/\LG x.next r.q.most r.l.items)->KG x->KG (Bq_ t k x)
 |[],_,_,_,h=>h
 |y::t,k,x,ht,h=>by
   obtain⟨h1,h2,h3⟩:=ht 0 y rfl
   have hk:(((k:Nat):Int)).toNat=k:=by omega
   have hw:KG (Ab_ x (k:Int) (Ej_ y.l)):=Sh_ h ⟨by omega,by omega⟩ (by rw[hk,show gt x.rows k=gt x.rows (k+0) from rfl,h2];exact Wb_ _ _ _ h3)
   refine kg_wake0 t (k+1) _ (λj r hr=>?_) hw
   obtain⟨g1,g2,g3⟩:=ht (j+1) r hr
   have hlen:(Ab_ x (k:Int) (Ej_ y.l)).rows.length=x.rows.length:=H8_ _ _ _
   refine⟨by rw[hlen];omega,?_,g3⟩
   rw[<- g2]
   show (gt (x.rows.set (((k:Nat):Int)).toNat ⟨(gt x.rows (((k:Nat):Int)).toNat).q,Ej_ y.l⟩) (k+1+j)).q=_
   rw[hk]
   have e:k+1+j=k+(j+1):=by omega
   rw[e]
   unfold gt
   rw[List.getD_eq_getElem?_getD,List.getElem?_set_ne (by omega),<- List.getD_eq_getElem?_getD]
theorem next_up {n:Int} (hu:U64 n):IntKind.wrap .u64 (n+1)=0\/n<IntKind.wrap .u64 (n+1):=by
 have h4:=hu.2
 by_cases q:n+1<=18446744073709551615
 . right
   rw[Ch_ (by have :=hu.1;omega) q];omega
 . left
   have :n=18446744073709551615:=by omega
   subst this;decide
theorem due_r (d t l:Int) (h:U64 d):U64 (Iy_ d t l):=by
 unfold Iy_
 have hw:=Go_ (t+l)
 refine bt (P:=U64) (λ_=>h) λ_=>bt (P:=U64) (λ_=>hw) λ_=>?_
 obtain⟨h1,h2⟩:=h
 constructor<;>omega
theorem kg_late0 (t:Int):∀ (l:List Fd_) (n:Int),(∀ r∈l,RG n r)->Wf (Bd_ t l).2.1
 |[],_,_=>wf_0
 |y::l,n,h=>by
   unfold Bd_ lt
   let Q:Bs×Mail×Bool->Prop:=λr=>Wf r.2.1
   refine bt (P:=Q) (λ_=>?_) λ_=>kg_late0 t l n λr hr=>h r (by simp[hr])
   unfold Fe_ lt
   exact wf_told (h y (by simp)).2.2 _
theorem cloG:Clw U64 Wf KG NtF where
 kp:=λ{k n m} hk hm h=>by
   have ha:=at_b k n
   unfold Ay_ lt
   let Q:D_×Int×Mail×Int->Prop:=λr=>KG r.1/\Wf r.2.2.1
   refine bt (P:=Q) (λ_=>⟨h,wf_0⟩) λe1=>bt (P:=Q) (λ_=>⟨h,wf_0⟩) λe2=>bt (P:=Q) (λ_=>⟨h,wf_0⟩) λe3=>?_
   simp only[decide_eq_false_iff_not,Bool.not_eq_false',decide_eq_true_eq] at e1 e2 e3
   have hi:0<=I_ k n/\I_ k n<k.rows.length:=by omega
   obtain⟨r1,r2,r3⟩:=Ul_ h (i:=(I_ k n).toNat) (by omega)
   have hln:LnOk (gt k.rows (I_ k n).toNat).l:=hk.1.2.1 _ (H3_ (by omega))
   have h64:=hln.1
   have hw:IntKind.wrap .u64 (Ea_ (gt k.rows (I_ k n).toNat).l)=((gt k.rows (I_ k n).toNat).l.items.length:Int):=Ch_ (show (0:Int)<=((gt k.rows (I_ k n).toNat).l.items.length:Int) by omega) (show ((gt k.rows (I_ k n).toNat).l.items.length:Int)<=_ by omega)
   obtain⟨row,hrow⟩:∃ row,gt k.rows (I_ k n).toNat=row:=⟨_,rfl⟩
   rw[hrow] at r1 r2 r3 hln h64 hw ⊢
   rw[hw]
   refine lp2E (P:=Q) (λq=>LG k.next row.q.most q.1.items/\(q.1.items.length:Int)<row.q.most/\Wf q.2) ?_ λx x1 hx=>?_
   . refine bt (P:=LoP _ _) (λc=>bt (P:=LoP _ _) (λ_=>⟨h,wf_0⟩) λc2=>?_) λc=>⟨r3,?_,wf_0⟩
     . simp only[Bool.not_eq_false'] at c2
       have hrm:=lg_rem r3 (Cl_ row.l).1.id
       have h3:=hrm.2.2 (first_of c2)
       refine⟨hrm.1,?_,?_⟩
       . have :=r3.1
         show ((Ak_ row.l (Cl_ row.l).1.id).1.items.length:Int)<row.q.most
         omega
       . show Wf (Cl_ row.l).1
         unfold Cl_ lt
         exact wf_told r3 _
     . simp only[decide_eq_false_iff_not] at c
       show (row.l.items.length:Int)<row.q.most
       omega
   . refine bt (P:=Q) (λ_=>⟨h,wf_0⟩) λ_=>bt (P:=Q) (λ_=>⟨h,wf_0⟩) λ_=>⟨?_,hx.2.2⟩
     have hm1:MlF ⟨k.next,m.A9_,m.key,m.head,m.body,m.due,m.hops⟩:=mlf_of ⟨⟨h.1,hm.1.2.1,hm.1.2.2.1,hm.1.2.2.2⟩,hm.2⟩ (by rw[mailC_id];exact e2)
     refine kg_put h e3 hi ?_
     rw[hrow]
     exact lg_add ⟨hx.1.1,λy hy=>itf_up h.1 e3 (hx.1.2 y hy)⟩ hx.2.1 ⟨hm1,next_up h.1⟩
 kl:=λ{k n} h=>by
   have ha:=at_b k n
   unfold B2_ lt
   let Q:D_×K_×Bool->Prop:=λr=>KG r.1
   refine bt (P:=Q) (λ_=>h) λe=>?_
   simp only[decide_eq_false_iff_not] at e
   exact Sh_ h (by omega) (lg_lend (Ul_ h (by omega)).2.2)
 kr:=λ{k n i} h=>by
   have ha:=at_b k n
   unfold Ag_ lt
   let Q:D_×K_×Int->Prop:=λr=>KG r.1/\Wf r.2.1.Z_
   refine bt (P:=Q) (λ_=>⟨h,wf_0⟩) λe=>?_
   simp only[decide_eq_false_iff_not] at e
   have hr:=lg_rem (Ul_ h (i:=(I_ k n).toNat) (by omega)).2.2 i
   exact⟨Sh_ h (by omega) hr.1,hr.2.1⟩
 kb:=λ{k n i} h=>by
   have ha:=at_b k n
   unfold Cj_ lt
   let Q:D_×Int->Prop:=λr=>KG r.1
   refine bt (P:=Q) (λ_=>h) λe=>?_
   simp only[decide_eq_false_iff_not] at e
   exact Sh_ h (by omega) (lg_back (Ul_ h (by omega)).2.2 _)
 ks:=λ{k p m} hm h=>by
   unfold Bi_ lt
   let Q:D_×Int->Prop:=λr=>KG r.1
   refine bt (P:=Q) (λ_=>h) λe=>bt (P:=Q) (λ_=>h) λ_=>bt (P:=Q) (λ_=>h) λ_=>⟨h.1,h.2.1,λi hi=>?_⟩
   simp only[Bool.or_eq_false_iff,decide_eq_false_iff_not] at e
   show RiF (A16.get (A16.set k.rises (B8_ (A16.get k.rises p.toNat) m).1 p.toNat) i)
   rw[A16.get_set _ _ _ _ (by omega) hi]
   split
   . exact rput_f (mlf_of hm) (h.2.2 _ (by omega))
   . exact h.2.2 i hi
 kw:=λ{k} _ h=>kg_wake0 _ _ _ (λj r hr=>by
   have hl:=(List.getElem?_eq_some_iff.1 hr).1
   have hg:gt k.rows j=r:=by unfold gt;rw[List.getD_eq_getElem?_getD,hr];rfl
   rw[Nat.zero_add]
   refine⟨hl,by rw[hg],?_⟩
   have :=Ul_ h hl
   rw[hg] at this
   exact this.2.2) h
 kt:=λ{k t} h=>kg_late0 t _ _ h.2.1
 na:=λht hk h=>nadd_f ht hk h
 wd:=λh=>⟨⟨u64_0,due_r _ _ _ h.1.2.1,h.1.2.2⟩,h.2⟩
 wr:=λh=>⟨⟨u64_0,h.1.2⟩,h.2⟩
 wb:=λ{m s} h=>⟨⟨h.1.1,u64_0,wr_u8 _⟩,h.2⟩
 wp:=λ{m} h=>⟨⟨h.1.1,h.1.2.1,wr_u8 _⟩,h.2⟩
theorem doG {s:C_} {d:O_} (ht:U64 d.tick) (hc:0<=d.code/\d.code<=255) (h:StOk s) (h0:0<=d.Z_.hops) (hm:Wf d.Z_) (hqm:U64 d.queue.most) (hql:U64 d.queue.life) (hs:KG s.x.G_) (hn:NtF s.x.notes):KG (P_ s d).1.x.G_/\NtF (P_ s d).1.x.notes:=by
 rcases do_w cloG ht hc h h0 hm (⟨rfl,rfl,rfl,hs,hn,rfl,λ_=>id⟩:Kw U64 KG NtF s s) with e|(e|e)|e|e
 . rw[e];exact⟨hs,hn⟩
 . exact⟨e.k,e.n⟩
 . exact⟨e.k,e.n⟩
 . obtain⟨b,k,e2,e3,_⟩:=Wn_ s d
   rw[e,e2]
   refine⟨?_,hn⟩
   show KG k
   rcases e3 with rfl|rfl
   . unfold Al_ lt
     let R:D_×Int->Prop:=λr=>KG r.1
     refine bt (P:=R) (λ_=>hs) λ_=>bt (P:=R) (λ_=>hs) λ_=>bt (P:=R) (λ_=>hs) λ_=>bt (P:=R) (λ_=>hs) λ_=>⟨hs.1,λr hr=>?_,hs.2.2⟩
     rcases M7_ hr with q|q
     . exact hs.2.1 r q
     . rw[q];exact⟨hqm,hql,hqm.1,λ_ h=>by cases h⟩
   . unfold A6_ lt
     let R:D_×Int->Prop:=λr=>KG r.1
     exact bt (P:=R) (λ_=>hs) λ_=>⟨hs.1,λr hr=>hs.2.1 r (Yt_ hr),hs.2.2⟩
 . obtain⟨b,e2,_⟩:=shops_x s d
   rw[e,e2];exact⟨hs,hn⟩
theorem newG {p:E_} {k:Int} (hb:U64 (Am_ p k).x.G_.next):KG (Am_ p k).x.G_/\NtF (Am_ p k).x.notes:=by
 refine⟨⟨hb,(λ_ h=>by cases h),λi hi=>?_⟩,ntf_nil⟩
 have :∀ i,i<16->A16.get (Am_ p k).x.G_.rises i=⟨0,[]⟩:=bw16 rfl rfl rfl rfl rfl rfl rfl rfl rfl rfl rfl rfl rfl rfl rfl rfl
 rw[this i hi];exact rif_nil
theorem kf_of {k:D_} (h:StkOk k) (hq:RoB k) (hg:KG k):KF k:=
 ⟨h,hq,hg.1,λr hr=>⟨h.1.2.1 r hr,hq r hr,(hg.2.1 r hr).1,(hg.2.1 r hr).2.1,(hg.2.1 r hr).2.2.1,(hg.2.1 r hr).2.2.2⟩,hg.2.2⟩
variable {P:Program} {n:Nat} {N:Rest} {H0:Env} {Q:Qs} {ks:List Kt} {fF:Nat->PV} {fL:Nat->Blk}
theorem junk_le {i o b T0:Nat} {cs:List PV} (hb:fL i = .box b T0 cs):StLe ⟨fF,fL⟩ ⟨fF,lups fL i (.box b T0 (cs.set o .junk))⟩:=by
 intro H0 F H L ha
 have hp:∀ {p v},SimT fL H p v->SimT (lups fL i (.box b T0 (cs.set o .junk))) H p v:=λ{p v} h=>by
   cases p with
   |osl q=>
     simp only[SimT] at h ⊢
     by_cases hq:q=i
     . subst hq;simp only[hb] at h
       simp only[lups,Nat.beq_refl,cond_true]
     . rw[Gm_ _ _ _ _ hq];exact h
   |_=>exact h
 refine⟨ha.le,ha.g,λt=>hp (ha.f t),λq=>?_⟩
 have hq:SimB fL H (fL q) (L q):=ha.l q
 by_cases e:q=i
 . subst e
   show SimB _ H (lups fL q _ q) (L q)
   rw[D1_]
   rw[hb] at hq
   obtain⟨vs,h1,h2,h3⟩:=hq
   refine⟨vs,h1,by simp[h2],λm p v hm hv=>?_⟩
   rw[List.getElem?_set] at hm
   split at hm
   . split at hm
     . cases hm;exact Sim.junk
     . cases hm
   . exact hp (h3 m p v hm hv)
 . show SimB _ H (lups fL i _ q) (L q)
   rw[Gm_ _ _ _ _ e]
   have hq':SimB fL H (fL q) (L q):=hq
   generalize fL q=B at hq' ⊢
   cases B with
   |box b' T' cs'=>obtain⟨vs,h1,h2,h3⟩:=hq';exact⟨vs,h1,h2,λm p v hm hv=>hp (h3 m p v hm hv)⟩
   |_=>exact hq'
theorem bx_junk {i b T0:Nat} {cs:List PV} {c:Code} (o:Nat) (hb:fL i = .box b T0 cs) (kk:Hd P n N H0 Q (.code c) ks ⟨fF,lups fL i (.box b T0 (cs.set o .junk))⟩):Hd P n N H0 Q (.code c) ks ⟨fF,fL⟩:=
 SW.hd_le (junk_le hb) (λ_ h=>by cases h) kk
theorem rm2 {tb:Tb} {rs:List ResultVar} {res p1 p2:PV} {b b' T:Nat} {post q:List PV} {as0 bs:List Nat} (h:Hz_ tb ⟨fF,fL⟩ rs=some ([p1,p2],as0,bs)) (he:as0=bs) (hp:PLe (.tup [p1,p2]) res) (hb:fL 0 = .box b' T q) (hbb:b'=b) (hn:Ct_ q=true) (hq:PLes q post):Hd P n N H0 (rmK tb rs res b T post) (.ex .ret) [] ⟨fF,fL⟩:=SW.rm h he hp hb hbb hn hq
end Go.SW.V
namespace Go.SW
structure RdR where
 p:Unit
 Gt_:List O_
deriving DecidableEq,Inhabited
def RdR.pc (x:RdR):List PV:=[.junk, .sl O_.pc x.Gt_]
end Go.SW
namespace Go.SW.V
open Go.SW
def Ah_ (r:RdR):List O_->C_->Ap_×Bool×RdR
 |[],x1=>lt (J_ x1) λr4=>
 (r4.book,true,(⟨(),r.Gt_⟩:RdR))
 |x2::t,x1=>lt (J_ x1) λr2=>
 lt (P_ x1 x2) λr3=>
 (bif ((!decide (r3.2.2=0))||(H0_ r2.book ((J_ r3.1).book))) then
 ((⟨[],[]⟩:Ap_),false,(⟨(),r.Gt_⟩:RdR))
 else Ah_ r t r3.1)
def Be_ (r:RdR):List U_->C_->Ap_×Bool×RdR
 |[],x=>Ah_ r r.Gt_ x
 |x3::t1,x=>lt (P_ x (⟨2,0,(⟨[],0,[]⟩:W_),x3,(⟨[],[],false,[],[],false⟩:Q_),[],0,0,0,0,0,(⟨0,[],[],[],[],0,0⟩:Mail),[]⟩:O_)) λr1=>
 Be_ r t1 r1.1
def As_ (r:RdR) (s:C_) (queues:List U_):Ap_×Bool×RdR:=
 Be_ r queues s
def EqT (i:In) (m:Int) (r:Bs×In):Prop:=X_ i m=r
def EqN (i:In) (m:Int) (r:Int×In):Prop:=Y_ i m=r
def EqR (i:In) (m:Int) (r:Bs×In):Prop:=Fg_ i m=r
def EqH (i:In) (r:List Pair×In):Prop:=Bt_ i=r
def EqO (i:In) (r:B4_×In):Prop:=Do_ i=r
theorem book_ok1 (r:RdR):∀ (t:List O_) (s:C_),StOk s->StB s->(∀ d∈t,DdG d)->BkOk (Ah_ r t s).1/\BkB (Ah_ r t s).1
 |[],s,hs,hb,_=>⟨hs.1.1,hb.1⟩
 |d::t,s,hs,hb,hd=>by
   rw[Ah_]
   unfold lt
   let R:Ap_×Bool×RdR->Prop:=λy=>BkOk y.1/\BkB y.1
   obtain⟨h1,h2,h3,h4,h5,h6⟩:=hd d (by simp)
   refine bt (P:=R) (λ_=>⟨⟨by simp,by simp,λ_ h=>by cases h⟩,(λ_ h=>by cases h),λ_ h=>by cases h⟩) λ_=>?_
   exact book_ok1 r t _ (Ru_ hs h1 h4) (doB ⟨h2,h3⟩ hs h4 h5 h6 hb) λy hy=>hd y (by simp[hy])
theorem book_ok0 (r:RdR):∀ (t:List U_) (s:C_),StOk s->StB s->(∀ d∈r.Gt_,DdG d)->BkOk (Be_ r t s).1/\BkB (Be_ r t s).1
 |[],s,hs,hb,hd=>by rw[Be_];exact book_ok1 r _ s hs hb hd
 |q::t,s,hs,hb,hd=>by
   rw[Be_]
   unfold lt
   obtain⟨h1,h2,h3,h4,h5,h6⟩:=ddq q
   exact book_ok0 r t _ (Ru_ hs h1 h4) (doB ⟨h2,h3⟩ hs h4 h5 h6 hb) hd
theorem book_ok (r:RdR) (s:C_) (queues:List U_) (hs:StOk s) (hb:StB s) (hd:∀ d∈r.Gt_,DdG d):BkOk (As_ r s queues).1/\BkB (As_ r s queues).1:=book_ok0 r queues s hs hb hd
theorem nread_err {i:In} (h:(Do_ i).2.err=0):i.err=0:=by
 unfold Do_ lt lt1 at h
 have h1:=Bs_ (Y_ i 8).2 1
 have h2:=nread_e0 _ _ _ _ _ _ (by omega) (by omega) (by decide) (h1.2.2.2 (by decide)) h
 revert h2
 have h3:(Y_ (Y_ i 8).2 1).2.err=0->i.err=0:=λe=>(L9_ (L9_ e).1).1
 refine bt (P:=λj:In=>j.err=0->i.err=0) (λ_=>h3) λ_=>bt (P:=λj:In=>j.err=0->i.err=0) (λ_ e=>h3 (Q8_ e).1) λ_=>bt (P:=λj:In=>j.err=0->i.err=0) (λ_ e=>h3 (Q8_ e).1) λ_=>h3
theorem Ve_ {i j:In} {l:List O_} (h:DdsG i l) (he:j.err=0->i.err=0):DdsG j l:=λe=>h (he e)
theorem Og_ {i:In} {n:Int} {r:_} {l:List O_} (h:DdsG i l) (h1:Y_ i n=r):DdsG r.2 l:=Ve_ h λe=>by subst h1;exact (L9_ e).1
theorem dds_raw {i:In} {n:Int} {r:_} {l:List O_} (h:DdsG i l) (h1:Fg_ i n=r):DdsG r.2 l:=Ve_ h λe=>by subst h1;exact (O9_ e).1
theorem dds_notes {i:In} {r:_} {l:List O_} (h:DdsG i l) (h1:Do_ i=r):DdsG r.2 l:=Ve_ h λe=>by subst h1;exact nread_err e
theorem inEnd_e {i:In} (h:Vz_ i=0):i.err=0:=by
 unfold Vz_ at h
 split at h
 . omega
 . exact h
def PkOk (x:Aa_):Prop:=StkOk x.G_/\RoB x.G_/\x.notes.kept.length<=32/\NoB x.notes
theorem imOk_of {b:Ap_} {x:Aa_} {a:_} {c:_} (h:BkOk b/\BkB b) (k:PkOk x):ImOk ⟨b,x.G_,x.notes,a,c⟩:=⟨h.1,h.2,k⟩
theorem Tg_ {p:E_} {k:Int} (hp:PoOk p) (hk:0<=k/\k<p.places.length):(gt p.places k.toNat).bytes<=1000000:=by
 have h1:=hp.2.2.2.2.2.2 (gt p.places k.toNat) (H3_ (by omega))
 omega
def Du_ (text:Bs) (p:E_) (place:Int) (deeds1:List O_) (r13:D_×Int):Nat->Int->Nat->In->Aa_->Aa_×Int
 |0,_,_,_,_=>default
 | f8+1,e_1,v1,x4,x5=>(bif decide ((v1:Int)<8) then
 lt (Y_ x4 8) λr16=>
 lt (Y_ r16.2 1) λr17=>
 (bif decide (16<((A8.get (A8.set x5.spent (⟨r16.1,r17.1⟩:Av_) v1) v1).count)) then
 Du_ text p place deeds1 r13 f8 4 (v1+1) r17.2 (⟨x5.book,x5.G_,x5.notes,x5.seen,(A8.set x5.spent (⟨r16.1,r17.1⟩:Av_) v1)⟩:Aa_)
 else Du_ text p place deeds1 r13 f8 e_1 (v1+1) r17.2 (⟨x5.book,x5.G_,x5.notes,x5.seen,(A8.set x5.spent (⟨r16.1,r17.1⟩:Av_) v1)⟩:Aa_))
 else (bif ((!decide ((Vz_ x4)=0))||(!decide (e_1=0))) then
 ((⟨(⟨[],[]⟩:Ap_),(⟨0,0,[],(⟨(⟨0,[]⟩:Bc_),(⟨0,[]⟩:Bc_),(⟨0,[]⟩:Bc_),(⟨0,[]⟩:Bc_),(⟨0,[]⟩:Bc_),(⟨0,[]⟩:Bc_),(⟨0,[]⟩:Bc_),(⟨0,[]⟩:Bc_),(⟨0,[]⟩:Bc_),(⟨0,[]⟩:Bc_),(⟨0,[]⟩:Bc_),(⟨0,[]⟩:Bc_),(⟨0,[]⟩:Bc_),(⟨0,[]⟩:Bc_),(⟨0,[]⟩:Bc_),(⟨0,[]⟩:Bc_)⟩:A16_RiseR)⟩:D_),(⟨0,[]⟩:B4_),(⟨0,0,0,0,0,0,0,0,0,0,0,0,0,0,0,0⟩:A16_u64),(⟨(⟨0,0⟩:Av_),(⟨0,0⟩:Av_),(⟨0,0⟩:Av_),(⟨0,0⟩:Av_),(⟨0,0⟩:Av_),(⟨0,0⟩:Av_),(⟨0,0⟩:Av_),(⟨0,0⟩:Av_)⟩:A8_SpentR)⟩:Aa_),4)
 else lt (Am_ p place) λr18=>
 lt (A0_ (r13.1)) λr19=>
 lt (As_ (⟨(),deeds1⟩:RdR) r18 r19) λr20=>
 (bif ((!r20.2.1)||(!decide ((Ca_ (⟨(r20.1),x5.G_,x5.notes,x5.seen,x5.spent⟩:Aa_))=text))) then
 ((⟨(⟨[],[]⟩:Ap_),(⟨0,0,[],(⟨(⟨0,[]⟩:Bc_),(⟨0,[]⟩:Bc_),(⟨0,[]⟩:Bc_),(⟨0,[]⟩:Bc_),(⟨0,[]⟩:Bc_),(⟨0,[]⟩:Bc_),(⟨0,[]⟩:Bc_),(⟨0,[]⟩:Bc_),(⟨0,[]⟩:Bc_),(⟨0,[]⟩:Bc_),(⟨0,[]⟩:Bc_),(⟨0,[]⟩:Bc_),(⟨0,[]⟩:Bc_),(⟨0,[]⟩:Bc_),(⟨0,[]⟩:Bc_),(⟨0,[]⟩:Bc_)⟩:A16_RiseR)⟩:D_),(⟨0,[]⟩:B4_),(⟨0,0,0,0,0,0,0,0,0,0,0,0,0,0,0,0⟩:A16_u64),(⟨(⟨0,0⟩:Av_),(⟨0,0⟩:Av_),(⟨0,0⟩:Av_),(⟨0,0⟩:Av_),(⟨0,0⟩:Av_),(⟨0,0⟩:Av_),(⟨0,0⟩:Av_),(⟨0,0⟩:Av_)⟩:A8_SpentR)⟩:Aa_),4)
 else ((⟨(r20.1),x5.G_,x5.notes,x5.seen,x5.spent⟩:Aa_),0))))
def Ey_ (text:Bs) (p:E_) (place:Int) (deeds1:List O_) (r13:D_×Int):Nat->Nat->In->Aa_->Aa_×Int
 |0,_,_,_=>default
 | f9+1,v,x2,x3=>(bif decide ((v:Int)<16) then
 lt (Y_ x2 8) λr15=>
 Ey_ text p place deeds1 r13 f9 (v+1) r15.2 (⟨x3.book,x3.G_,x3.notes,(A16.set x3.seen r15.1 v),x3.spent⟩:Aa_)
 else Du_ text p place deeds1 r13 (8-0+1) r13.2 0 x2 x3)
def C5_ (text:Bs) (p:E_) (place:Int):Nat->Int->In->List O_->Aa_×Int
 |0,_,_,_=>default
 | f10+1,n1,x1,deeds1=>(bif ((decide (0<n1))&&(decide (x1.err=0))) then
 lt (X_ x1 16) λr5=>
 lt (X_ ((r5).2) 16) λr6=>
 lt (Y_ ((r6).2) 1) λr7=>
 lt (X_ ((r7).2) 64) λr8=>
 lt (Bt_ r8.2) λr9=>
 lt (Y_ r9.2 1) λr10=>
 C5_ text p place f10 (IntKind.wrap .u64 (n1-1)) r10.2 (deeds1++[(⟨4,0,(⟨[],0,[]⟩:W_),(⟨[],0,0,[]⟩:U_),(⟨(r5).1,(r6).1,decide (((r7).1)=1),r8.1,r9.1,decide (r10.1=1)⟩:Q_),[],0,0,0,0,0,(⟨0,[],[],[],[],0,0⟩:Mail),[]⟩:O_)])
 else lt (Y_ x1 4) λr11=>
 lt (Fg_ ((r11).2) (IntKind.wrap .i64 ((r11).1))) λr12=>
 lt (Gs_ (r12.1) ((gt p.places ((place).toNat)).bytes)) λr13=>
 lt (Do_ (r12.2)) λr14=>
 Ey_ text p place deeds1 r13 (16-0+1) 0 (r14.2) (⟨(⟨[],[]⟩:Ap_),(r13.1),(r14.1),(⟨0,0,0,0,0,0,0,0,0,0,0,0,0,0,0,0⟩:A16_u64),(⟨(⟨0,0⟩:Av_),(⟨0,0⟩:Av_),(⟨0,0⟩:Av_),(⟨0,0⟩:Av_),(⟨0,0⟩:Av_),(⟨0,0⟩:Av_),(⟨0,0⟩:Av_),(⟨0,0⟩:Av_)⟩:A8_SpentR)⟩:Aa_))
def Ex_ (text:Bs) (p:E_) (place:Int):Nat->Int->In->List O_->Aa_×Int
 |0,_,_,_=>default
 | f11+1,n,x,Gt_=>(bif ((decide (0<n))&&(decide (x.err=0))) then
 lt (X_ x 16) λr1=>
 lt (Y_ ((r1).2) 1) λr2=>
 lt (X_ ((r2).2) 16) λr3=>
 Ex_ text p place f11 (IntKind.wrap .u64 (n-1)) r3.2 (Gt_++[(⟨0,0,(⟨(r1).1,(r2).1,r3.1⟩:W_),(⟨[],0,0,[]⟩:U_),(⟨[],[],false,[],[],false⟩:Q_),[],0,0,0,0,0,(⟨0,[],[],[],[],0,0⟩:Mail),[]⟩:O_)])
 else lt (Y_ x 1) λr4=>
 C5_ text p place ((r4.1).toNat+1) r4.1 r4.2 Gt_)
def E9_ (text:Bs) (p:E_) (place:Int):Aa_×Int:=
 lt (Y_ (⟨text,0⟩) 1) λr=>
 Ex_ text p place ((r.1).toNat+1) r.1 r.2 []
theorem im_st {s:C_} (h:StOk s) (k:StB s):ImOk (J_ s):=⟨h.1.1,k.1,h.1.2.1,k.2.1,h.1.2.2.1,k.2.2⟩
theorem bit_n (b:Bool):(E5_ b).toNat=bitM b:=by cases b<;>rfl
theorem ib0 (x:Aa_) (r1:List Q_):∀ (t:List W_) (o:Out),(∀ s∈t,Jy_ s=0)->Ev_ x r1 t o=D4_ x r1 (B_ ⟨o.s++t.flatMap Qh_,o.err⟩ (r1.length:Int) 1)
 |[],o,_=>by rw[Ev_];simp
 |y::t,o,h=>by
   have hy:=Tq_ (h y (by simp))
   rw[Ev_,ib0 x r1 t _ (λz hz=>h z (by simp[hz])),Ce_ (s:=y.name) (by omega),F8_ (n:=y.sort),Ce_ (s:=y.to') (by omega)]
   simp[Qh_,List.append_assoc]
theorem ib1 (x:Aa_):∀ (t:List Q_) (o:Out),(∀ y∈t,BiB y)->D4_ x t o=D4_ x [] ⟨o.s++t.flatMap Lf_,o.err⟩
 |[],o,_=>by simp
 |y::t,o,h=>by
   have hy:=bib_f (h y (by simp))
   rw[D4_.eq_2,ib1 x t _ (λz hz=>h z (by simp[hz])),Ce_ (s:=y.A9_) (by omega),Ce_ (s:=y.to') (by omega),F8_ (n:=E5_ y.up),Ce_ (s:=y.key) (by omega),F8_ (n:=E5_ y.all),bit_n,bit_n]
   simp[Lf_,Ao_,List.append_assoc]
theorem nb_eq0:∀ (t:List Eh_) (o:Out),(∀ y∈t,y.text.length<=64)->Br_ t o=o.s++t.flatMap Po_
 |[],o,_=>by simp[Br_]
 |y::t,o,h=>by
   have hy:=h y (by simp)
   rw[Br_,nb_eq0 t _ (λz hz=>h z (by simp[hz])),F8_,Jx_,Ce_ (by omega)]
   simp[Po_,List.append_assoc]
theorem nb_eq {n:B4_} (h:NoB n):C9_ n=K6_ n:=by
 unfold C9_
 rw[nb_eq0 _ _ (λy hy=>(h y hy).1),F8_,Jx_]
 simp[K6_]
def N3_ (s:W_):O_:=(⟨0,0,s,(⟨[],0,0,[]⟩:U_),(⟨[],[],false,[],[],false⟩:Q_),[],0,0,0,0,0,(⟨0,[],[],[],[],0,0⟩:Mail),[]⟩:O_)
def Ll_ (b:Q_):O_:=(⟨4,0,(⟨[],0,[]⟩:W_),(⟨[],0,0,[]⟩:U_),b,[],0,0,0,0,0,(⟨0,[],[],[],[],0,0⟩:Mail),[]⟩:O_)
theorem irs_fwd (text:Bs) (p:E_) (k:Int) (rest:Bs) (t:List W_):∀ (f:Nat) (ds:List O_),t.length<f->t.length<=255->(∀ s∈t,Jy_ s=0/\0<=s.sort)->Ex_ text p k f (t.length:Int) ⟨t.flatMap Qh_++rest,0⟩ ds=Ex_ text p k 1 0 ⟨rest,0⟩ (ds++t.map N3_):=by
 induction t with
 |nil=>
   intro f ds hf _ _
   obtain⟨g,rfl⟩:∃ g,f=g+1:=⟨f-1,by omega⟩
   rw[Ex_.eq_2,Ex_.eq_2]
   have c:decide ((0:Int)<0)=false:=by decide
   have c0:(([]:List W_).length:Int)=0:=rfl
   rw[c0,c]
   simp
 |cons s t ih=>
   intro f ds hf hl h
   obtain⟨g,rfl⟩:∃ g,f=g+1:=⟨f-1,by omega⟩
   simp only[List.length_cons] at hf hl
   obtain⟨h1,h2⟩:=h s (by simp)
   have h3:=Tq_ h1
   have e1:X_ ⟨(s::t).flatMap Qh_++rest,0⟩ 16=(s.name,⟨numB 1 s.sort.toNat++(txtB s.to'++(t.flatMap Qh_++rest)),0⟩):=by
     rw[List.flatMap_cons,Qh_]
     simp only[List.append_assoc]
     exact Li_ (by omega) (by omega)
   have e2:Y_ ⟨numB 1 s.sort.toNat++(txtB s.to'++(t.flatMap Qh_++rest)),0⟩ 1=(s.sort,⟨txtB s.to'++(t.flatMap Qh_++rest),0⟩):=Kb_ h2 (by omega)
   have e3:X_ ⟨txtB s.to'++(t.flatMap Qh_++rest),0⟩ 16=(s.to',⟨t.flatMap Qh_++rest,0⟩):=Li_ (by omega) (by omega)
   rw[Ex_.eq_2]
   have e:decide (0<(((s::t).length:Nat):Int))=true:=decide_eq_true (by simp only[List.length_cons];omega)
   rw[e]
   simp only[decide_true,Bool.and_true,cond_true]
   rw[lt,e1,lt,e2,lt,e3]
   have hw:IntKind.wrap .u64 ((((s::t).length:Nat):Int)-1)=(t.length:Int):=by
     rw[Ch_ (by simp only[List.length_cons];omega) (by simp only[List.length_cons];omega)]
     simp only[List.length_cons];omega
   rw[hw]
   refine (ih g (ds++[N3_ s]) (by omega) (by omega) (λy hy=>h y (by simp[hy]))).trans ?_
   rw[List.map_cons,List.append_assoc,List.singleton_append]
theorem irb_step {text:Bs} {p:E_} {k n:Int} {f:Nat} {i:In} {ds:List O_} {r5 r6 r7 r8 r9 r10:_} (hn:0<n) (hi:i.err=0) (e5:X_ i 16=r5) (e6:X_ r5.2 16=r6) (e7:Y_ r6.2 1=r7) (e8:X_ r7.2 64=r8) (e9:Bt_ r8.2=r9) (e10:Y_ r9.2 1=r10):C5_ text p k (f+1) n i ds=C5_ text p k f (IntKind.wrap .u64 (n-1)) r10.2 (ds++[Ll_ ⟨r5.1,r6.1,decide (r7.1=1),r8.1,r9.1,decide (r10.1=1)⟩]):=by
 rw[C5_.eq_2,decide_eq_true hn,decide_eq_true hi]
 simp only[Bool.and_true,cond_true]
 rw[lt,e5]
 rw[lt,e6]
 rw[lt,e7]
 rw[lt,e8]
 rw[lt,e9]
 rw[lt,e10]
 rfl
theorem bit_one (b:Bool):decide (((bitM b:Nat):Int)=1)=b:=by cases b<;>rfl
theorem irb_nil (text:Bs) (p:E_) (k:Int) (f g:Nat) (i:In) (ds:List O_):C5_ text p k (f+1) 0 i ds=C5_ text p k (g+1) 0 i ds:=by
 rw[C5_.eq_2,C5_.eq_2]
 have c:decide ((0:Int)<0)=false:=by decide
 rw[c,Bool.false_and,cond_false,cond_false]
theorem irb_fwd (text:Bs) (p:E_) (k:Int) (rest:Bs) (t:List Q_):∀ (f:Nat) (ds:List O_),t.length<f->t.length<=255->(∀ y∈t,BiB y)->C5_ text p k f (t.length:Int) ⟨t.flatMap Lf_++rest,0⟩ ds=C5_ text p k 1 0 ⟨rest,0⟩ (ds++t.map Ll_):=by
 induction t with
 |nil=>
   intro f ds hf _ _
   obtain⟨g,rfl⟩:∃ g,f=g+1:=⟨f-1,by omega⟩
   rw[List.map_nil,List.append_nil]
   exact irb_nil text p k g 0 _ ds
 |cons y t ih=>
   intro f ds hf hl h
   obtain⟨g,rfl⟩:∃ g,f=g+1:=⟨f-1,by omega⟩
   simp only[List.length_cons] at hf hl
   have hy:=h y (by simp)
   have h3:=bib_f hy
   have hb:∀ b:Bool,bitM b<=255:=λb=>by cases b<;>decide
   have e1:X_ ⟨(y::t).flatMap Lf_++rest,0⟩ 16=(y.A9_,⟨txtB y.to'++(numB 1 (bitM y.up)++(txtB y.key++(Bg_ y.want++(numB 1 (bitM y.all)++(t.flatMap Lf_++rest))))),0⟩):=by
     rw[List.flatMap_cons,Lf_]
     simp only[List.append_assoc]
     exact Li_ (by omega) (by omega)
   have e2:X_ ⟨txtB y.to'++(numB 1 (bitM y.up)++(txtB y.key++(Bg_ y.want++(numB 1 (bitM y.all)++(t.flatMap Lf_++rest))))),0⟩ 16=(y.to',⟨numB 1 (bitM y.up)++(txtB y.key++(Bg_ y.want++(numB 1 (bitM y.all)++(t.flatMap Lf_++rest)))),0⟩):=Li_ (by omega) (by omega)
   have e3:Y_ ⟨numB 1 (bitM y.up)++(txtB y.key++(Bg_ y.want++(numB 1 (bitM y.all)++(t.flatMap Lf_++rest)))),0⟩ 1=(((bitM y.up:Nat):Int),⟨txtB y.key++(Bg_ y.want++(numB 1 (bitM y.all)++(t.flatMap Lf_++rest))),0⟩):=H7_ (hb _)
   have e4:X_ ⟨txtB y.key++(Bg_ y.want++(numB 1 (bitM y.all)++(t.flatMap Lf_++rest))),0⟩ 64=(y.key,⟨Bg_ y.want++(numB 1 (bitM y.all)++(t.flatMap Lf_++rest)),0⟩):=Li_ (by omega) (by omega)
   have e5:Bt_ ⟨Bg_ y.want++(numB 1 (bitM y.all)++(t.flatMap Lf_++rest)),0⟩=(y.want,⟨numB 1 (bitM y.all)++(t.flatMap Lf_++rest),0⟩):=Qo_ hy.2.2.2.1 hy.2.2.2.2
   have e6:Y_ ⟨numB 1 (bitM y.all)++(t.flatMap Lf_++rest),0⟩ 1=(((bitM y.all:Nat):Int),⟨t.flatMap Lf_++rest,0⟩):=H7_ (hb _)
   have hw:IntKind.wrap .u64 ((((y::t).length:Nat):Int)-1)=(t.length:Int):=by
     rw[Ch_ (by simp only[List.length_cons];omega) (by simp only[List.length_cons];omega)]
     simp only[List.length_cons];omega
   rw[irb_step (show (0:Int)<(((y::t).length:Nat):Int) by simp only[List.length_cons];omega) rfl e1 e2 e3 e4 e5 e6,hw]
   simp only[bit_one]
   refine (ih g (ds++[Ll_ y]) (by omega) (by omega) (λz hz=>h z (by simp[hz]))).trans ?_
   rw[List.map_cons,List.append_assoc,List.singleton_append]
def sB (a:A16_u64):Nat->Bs
 |0=>[]
 |n+1=>numB 8 (A16.get a (15-n)).toNat++sB a n
theorem is_eq (x:Aa_) (n:Nat):∀ (f:Nat) (o:Out),n<=16->n<f->∃ e,Gk_ x f (16-n) o=Fy_ x (8-0+1) 0 ⟨o.s++sB x.seen n,e⟩:=by
 induction n with
 |zero=>
   intro f o _ hf
   obtain⟨g,rfl⟩:∃ g,f=g+1:=⟨f-1,by omega⟩
   refine⟨o.err,?_⟩
   rw[Gk_]
   have e:decide (((16-0:Nat):Int)<16)=false:=by decide
   rw[e,cond_false]
   simp[sB]
 |succ n ih=>
   intro f o h hf
   obtain⟨g,rfl⟩:∃ g,f=g+1:=⟨f-1,by omega⟩
   have e:decide (((16-(n+1):Nat):Int)<16)=true:=decide_eq_true (by omega)
   have hv:16-(n+1)=15-n:=by omega
   have hv2:16-(n+1)+1=16-n:=by omega
   obtain⟨w,hw⟩:=ih g (B_ o (A16.get x.seen (15-n)) 8) (by omega) (by omega)
   refine⟨w,?_⟩
   rw[Gk_,e,cond_true,hv2,hv,hw,Jx_,sB]
   simp
theorem ird2_step {text:Bs} {p:E_} {k:Int} {ds:List O_} {q:D_×Int} {f v:Nat} {i:In} {x:Aa_} {r:Int×In} (hv:(v:Int)<16) (e:Y_ i 8=r):Ey_ text p k ds q (f+1) v i x=Ey_ text p k ds q f (v+1) r.2 ⟨x.book,x.G_,x.notes,A16.set x.seen r.1 v,x.spent⟩:=by
 rw[Ey_,decide_eq_true hv,cond_true,lt,e]
theorem ird2_end {text:Bs} {p:E_} {k:Int} {ds:List O_} {q:D_×Int} {f v:Nat} {i:In} {x:Aa_} (hv:¬(v:Int)<16):Ey_ text p k ds q (f+1) v i x=Du_ text p k ds q (8-0+1) q.2 0 i x:=by
 rw[Ey_,decide_eq_false hv,cond_false]
theorem is_fwd (text:Bs) (p:E_) (k:Int) (ds:List O_) (q:D_×Int) (rest:Bs) (a:A16_u64) (ha:∀ i,i<16->U64 (A16.get a i)) (n:Nat):∀ (f:Nat) (x:Aa_),n<=16->n<f->(∀ i,i<16-n->A16.get x.seen i=A16.get a i)->Ey_ text p k ds q f (16-n) ⟨sB a n++rest,0⟩ x=Du_ text p k ds q (8-0+1) q.2 0 ⟨rest,0⟩ ⟨x.book,x.G_,x.notes,a,x.spent⟩:=by
 induction n with
 |zero=>
   intro f x _ hf h
   obtain⟨g,rfl⟩:∃ g,f=g+1:=⟨f-1,by omega⟩
   rw[ird2_end (by omega)]
   have hs:x.seen=a:=a16_ext λi hi=>h i (by omega)
   obtain⟨x1,x2,x3,x4,x5⟩:=x
   have hs:x4=a:=hs
   subst hs
   rfl
 |succ n ih=>
   intro f x hn hf h
   obtain⟨g,rfl⟩:∃ g,f=g+1:=⟨f-1,by omega⟩
   have hu:=ha (15-n) (by omega)
   have e1:Y_ ⟨sB a (n+1)++rest,0⟩ 8=(A16.get a (15-n),⟨sB a n++rest,0⟩):=by
     rw[sB,List.append_assoc]
     exact Hb_ hu.1 (by have :=hu.2;omega)
   have hv:16-(n+1)=15-n:=by omega
   have hv2:15-n+1=16-n:=by omega
   rw[hv,ird2_step (by omega) e1,hv2,ih g _ (by omega) (by omega)]
   intro i hi
   show A16.get (A16.set x.seen (A16.get a (15-n)) (15-n)) i=_
   rw[A16.get_set _ _ _ _ (by omega) (by omega)]
   by_cases q2:i=15-n
   . subst q2;rw[if_pos rfl]
   . rw[if_neg (by omega)]
     exact h i (by omega)
def pB (a:A8_SpentR):Nat->Bs
 |0=>[]
 |n+1=>numB 8 (A8.get a (7-n)).round.toNat++(numB 1 (IntKind.wrap .u64 (A8.get a (7-n)).count).toNat++pB a n)
theorem ip_eq (x:Aa_) (n:Nat):∀ (f:Nat) (o:Out),n<=8->n<f->Fy_ x f (8-n) o=o.s++pB x.spent n:=by
 induction n with
 |zero=>
   intro f o _ hf
   obtain⟨g,rfl⟩:∃ g,f=g+1:=⟨f-1,by omega⟩
   rw[Fy_]
   have e:decide (((8-0:Nat):Int)<8)=false:=by decide
   rw[e,cond_false]
   simp[pB]
 |succ n ih=>
   intro f o h hf
   obtain⟨g,rfl⟩:∃ g,f=g+1:=⟨f-1,by omega⟩
   have e:decide (((8-(n+1):Nat):Int)<8)=true:=decide_eq_true (by omega)
   have hv:8-(n+1)=7-n:=by omega
   have hv2:8-(n+1)+1=8-n:=by omega
   rw[Fy_,e,cond_true,hv2,hv,ih g _ (by omega) (by omega),F8_,Jx_,pB]
   simp
theorem ird3_step {text:Bs} {p:E_} {k:Int} {ds:List O_} {q:D_×Int} {f v:Nat} {c:Int} {i:In} {x:Aa_} {r r2:Int×In} (hv:(v:Int)<8) (e:Y_ i 8=r) (e2:Y_ r.2 1=r2) (hc:r2.1<=16):Du_ text p k ds q (f+1) c v i x=Du_ text p k ds q f c (v+1) r2.2 ⟨x.book,x.G_,x.notes,x.seen,A8.set x.spent ⟨r.1,r2.1⟩ v⟩:=by
 rw[Du_,decide_eq_true hv,cond_true,lt,e,lt,e2]
 have hg:A8.get (A8.set x.spent (⟨r.1,r2.1⟩:Av_) v) v=⟨r.1,r2.1⟩:=by rw[A8.get_set _ _ _ _ (by omega) (by omega),if_pos rfl]
 rw[hg]
 have hd:decide (16<(⟨r.1,r2.1⟩:Av_).count)=false:=decide_eq_false (by show ¬16<r2.1;omega)
 rw[hd,cond_false]
theorem a8_ext {α:Type} {a b:A8 α} (h:∀ i,i<8->A8.get a i=A8.get b i):a=b:=by
 have h0:=h 0 (by decide);have h1:=h 1 (by decide);have h2:=h 2 (by decide);have h3:=h 3 (by decide)
 have h4:=h 4 (by decide);have h5:=h 5 (by decide);have h6:=h 6 (by decide);have h7:=h 7 (by decide)
 obtain⟨a0,a1,a2,a3,a4,a5,a6,a7⟩:=a
 obtain⟨b0,b1,b2,b3,b4,b5,b6,b7⟩:=b
 have h0:a0=b0:=h0;have h1:a1=b1:=h1;have h2:a2=b2:=h2;have h3:a3=b3:=h3
 have h4:a4=b4:=h4;have h5:a5=b5:=h5;have h6:a6=b6:=h6;have h7:a7=b7:=h7
 subst h0 h1 h2 h3 h4 h5 h6 h7
 rfl
theorem ip_fwd (text:Bs) (p:E_) (k:Int) (ds:List O_) (q:D_×Int) (c:Int) (rest:Bs) (a:A8_SpentR) (ha:∀ i,i<8->U64 (A8.get a i).round/\0<=(A8.get a i).count/\(A8.get a i).count<=16) (n:Nat):∀ (f:Nat) (x:Aa_),n<=8->(∀ i,i<8-n->A8.get x.spent i=A8.get a i)->Du_ text p k ds q (n+f) c (8-n) ⟨pB a n++rest,0⟩ x=Du_ text p k ds q f c 8 ⟨rest,0⟩ ⟨x.book,x.G_,x.notes,x.seen,a⟩:=by
 induction n with
 |zero=>
   intro f x _ h
   have hs:x.spent=a:=a8_ext λi hi=>h i (by omega)
   obtain⟨x1,x2,x3,x4,x5⟩:=x
   have hs:x5=a:=hs
   subst hs
   rw[Nat.zero_add]
   rfl
 |succ n ih=>
   intro f x hn h
   obtain⟨hu,h0,h16⟩:=ha (7-n) (by omega)
   have e1:Y_ ⟨pB a (n+1)++rest,0⟩ 8=((A8.get a (7-n)).round,⟨numB 1 (A8.get a (7-n)).count.toNat++(pB a n++rest),0⟩):=by
     rw[pB,Ch_ h0 (by omega)]
     simp only[List.append_assoc]
     exact Hb_ hu.1 (by have :=hu.2;omega)
   have e2:Y_ ⟨numB 1 (A8.get a (7-n)).count.toNat++(pB a n++rest),0⟩ 1=((A8.get a (7-n)).count,⟨pB a n++rest,0⟩):=Kb_ h0 (by omega)
   have hv:8-(n+1)=7-n:=by omega
   have hv2:7-n+1=8-n:=by omega
   have hf:n+1+f=(n+f)+1:=by omega
   rw[hv,hf,ird3_step (by omega) e1 e2 h16,hv2,ih f _ (by omega)]
   intro i hi
   show A8.get (A8.set x.spent (⟨(A8.get a (7-n)).round,(A8.get a (7-n)).count⟩:Av_) (7-n)) i=_
   rw[A8.get_set _ _ _ _ (by omega) (by omega)]
   by_cases q2:i=7-n
   . subst q2;rw[if_pos rfl]
   . rw[if_neg (by omega)]
     exact h i (by omega)
theorem ib_full {x:Aa_} (h:ImOk x):Ca_ x=bookB x.book++(numB 4 (S_ x.G_).length++(S_ x.G_++(K6_ x.notes++(sB x.seen 16++pB x.spent 8)))):=by
 obtain⟨h1,h2,h3,h4,h5,h6⟩:=h
 unfold Ca_ lt
 rw[binds_id,Wt_]
 dsimp only
 rw[ib0 _ _ _ _ (λs hs=>(h2.1 s hs).1),F8_,F8_,ib1 _ _ _ h2.2,D4_]
 unfold lt
 dsimp only
 obtain⟨w,e1⟩:=is_eq x 16 (16-0+1) (Ao_ (Ao_ (B_ ⟨([]++numB 1 (x.book.Ba_.length:Int).toNat++x.book.Ba_.flatMap Qh_++numB 1 (x.book.binds.length:Int).toNat)++x.book.binds.flatMap Lf_,0⟩ ((S_ x.G_).length:Int) 4) (S_ x.G_)) (C9_ x.notes)) (by omega) (by omega)
 refine e1.trans ?_
 refine (ip_eq x 8 (8-0+1) _ (by omega) (by omega)).trans ?_
 rw[outNum4,nb_eq h6]
 simp[Ao_,bookB,List.append_assoc]
theorem raw_fwd (s r:Bs):Fg_ ⟨s++r,0⟩ (s.length:Int)=(s,⟨r,0⟩):=by
 unfold Fg_
 simp
 by_cases q:s=[]
 . rw[if_pos q,q];rfl
 . rw[if_neg q,if_neg (by omega)]
theorem ird0_end {text:Bs} {p:E_} {k:Int} {f:Nat} {i:In} {ds:List O_} {r:Int×In} (e:Y_ i 1=r):Ex_ text p k (f+1) 0 i ds=C5_ text p k (r.1.toNat+1) r.1 r.2 ds:=by
 rw[Ex_.eq_2]
 have c:decide ((0:Int)<0)=false:=by decide
 rw[c,Bool.false_and,cond_false,lt,e]
theorem ird1_end {text:Bs} {p:E_} {k:Int} {f:Nat} {i:In} {ds:List O_} {r11 r12 r14:_} {r13:D_×Int} (e1:Y_ i 4=r11) (e2:Fg_ r11.2 (IntKind.wrap .i64 r11.1)=r12) (e3:Gs_ r12.1 ((gt p.places k.toNat).bytes)=r13) (e4:Do_ r12.2=r14):∃ x:Aa_,x.G_=r13.1/\x.notes=r14.1/\C5_ text p k (f+1) 0 i ds=Ey_ text p k ds r13 (16-0+1) 0 r14.2 x:=by
 rw[C5_.eq_2]
 have c:decide ((0:Int)<0)=false:=by decide
 rw[c,Bool.false_and,cond_false]
 rw[lt,e1]
 rw[lt,e2]
 rw[lt,e3]
 rw[lt,e4]
 exact⟨_,rfl,rfl,rfl⟩
def bkRd (x:Aa_):RdR:=⟨(),x.book.Ba_.map N3_++x.book.binds.map Ll_⟩
def PtF (p:E_) (k:Int) (x:Aa_):Prop:=ImOk x/\KF x.G_/\NtF x.notes/\x.G_.bytes=max 0 (gt p.places k.toNat).bytes/\0<=Dk_ x.G_/\(∀ i,i<16->U64 (A16.get x.seen i))/\∀ i,i<8->U64 (A8.get x.spent i).round/\0<=(A8.get x.spent i).count/\(A8.get x.spent i).count<=16
theorem ird3_end {text:Bs} {p:E_} {k:Int} {ds:List O_} {q:D_×Int} {f:Nat} {x:Aa_} {b:Ap_} {r:RdR} (hb:As_ ⟨(),ds⟩ (Am_ p k) (A0_ q.1)=(b,true,r)) (ht:Ca_ ⟨b,x.G_,x.notes,x.seen,x.spent⟩=text):Du_ text p k ds q (f+1) 0 8 ⟨[],0⟩ x=(⟨b,x.G_,x.notes,x.seen,x.spent⟩,0):=by
 rw[Du_]
 have c:decide (((8:Nat):Int)<8)=false:=by decide
 have c1:decide (Vz_ ⟨[],0⟩=0)=true:=by decide
 have c2:decide ((0:Int)=0)=true:=by decide
 rw[c,cond_false,c1,c2,Bool.not_true,Bool.or_false,cond_false,lt,lt,lt,hb]
 dsimp only
 rw[decide_eq_true ht,Bool.not_true,Bool.or_false,cond_false]
theorem iread_fwd {x:Aa_} {p:E_} {k:Int} {r:RdR} (h:PtF p k x) (hb:As_ (bkRd x) (Am_ p k) (A0_ x.G_)=(x.book,true,r)):E9_ (Ca_ x) p k=(x,0):=by
 obtain⟨h1,h2,h3,h4,h5,h6,h7⟩:=h
 have hs:=h1.1.1
 have hbn:=h1.1.2.1
 have kl:=kb_len h1.2.2.1 h1.2.2.2.1
 obtain⟨text,htx⟩:∃ t,Ca_ x=t:=⟨_,rfl⟩
 have hfull:=ib_full h1
 rw[htx] at hfull ⊢
 unfold E9_
 have e1:Y_ ⟨text,0⟩ 1=((x.book.Ba_.length:Int),⟨x.book.Ba_.flatMap Qh_++(numB 1 x.book.binds.length++(x.book.binds.flatMap Lf_++(numB 4 (S_ x.G_).length++(S_ x.G_++(K6_ x.notes++(sB x.seen 16++pB x.spent 8)))))),0⟩):=by
   rw[hfull,bookB]
   simp only[List.append_assoc]
   exact H7_ (by omega)
 rw[lt,e1]
 dsimp only
 rw[irs_fwd text p k _ x.book.Ba_ _ [] (by omega) (by omega) h1.2.1.1]
 have e2:Y_ ⟨numB 1 x.book.binds.length++(x.book.binds.flatMap Lf_++(numB 4 (S_ x.G_).length++(S_ x.G_++(K6_ x.notes++(sB x.seen 16++pB x.spent 8))))),0⟩ 1=((x.book.binds.length:Int),⟨x.book.binds.flatMap Lf_++(numB 4 (S_ x.G_).length++(S_ x.G_++(K6_ x.notes++(sB x.seen 16++pB x.spent 8)))),0⟩):=H7_ (by omega)
 rw[ird0_end e2]
 dsimp only
 rw[irb_fwd text p k _ x.book.binds _ _ (by omega) (by omega) h1.2.1.2]
 have e3:Y_ ⟨numB 4 (S_ x.G_).length++(S_ x.G_++(K6_ x.notes++(sB x.seen 16++pB x.spent 8))),0⟩ 4=(((S_ x.G_).length:Int),⟨S_ x.G_++(K6_ x.notes++(sB x.seen 16++pB x.spent 8)),0⟩):=by
   have :=inNum_fwd4 (r:=S_ x.G_++(K6_ x.notes++(sB x.seen 16++pB x.spent 8))) (n:=((S_ x.G_).length:Int)) (by omega) (by omega)
   rwa [Int.toNat_natCast] at this
 have hw:IntKind.wrap .i64 ((S_ x.G_).length:Int)=((S_ x.G_).length:Int):=Nm_ ⟨by show (-9223372036854775808:Int)<=_;omega,by show _<=(9223372036854775807:Int);omega⟩
 have e4:Fg_ ⟨S_ x.G_++(K6_ x.notes++(sB x.seen 16++pB x.spent 8)),0⟩ (IntKind.wrap .i64 ((S_ x.G_).length:Int))=(S_ x.G_,⟨K6_ x.notes++(sB x.seen 16++pB x.spent 8),0⟩):=by rw[hw];exact raw_fwd _ _
 have e5:=kof_fwd h2 h4 h5
 have e6:=nread_fwd h3 (sB x.seen 16++pB x.spent 8)
 obtain⟨x0,hx1,hx2,hx3⟩:=ird1_end (text:=text) (p:=p) (k:=k) (f:=0) (ds:=[]++x.book.Ba_.map N3_++x.book.binds.map Ll_) e3 e4 e5 e6
 refine hx3.trans ?_
 refine (is_fwd text p k _ _ (pB x.spent 8) x.seen h6 16 (16-0+1) x0 (by omega) (by omega) (λi hi=>by omega)).trans ?_
 have hp:=ip_fwd text p k ([]++x.book.Ba_.map N3_++x.book.binds.map Ll_) (x.G_,0) 0 [] x.spent h7 8 1 ⟨x0.book,x0.G_,x0.notes,x.seen,x0.spent⟩ (by omega) (λi hi=>by omega)
 rw[List.append_nil] at hp
 refine hp.trans ?_
 have hst:x0.G_=x.G_:=hx1
 have hno:x0.notes=x.notes:=hx2
 have hxx:(⟨x.book,x0.G_,x0.notes,x.seen,x.spent⟩:Aa_)=x:=by rw[hst,hno]
 refine (ird3_end (b:=x.book) (r:=r) (x:=⟨x0.book,x0.G_,x0.notes,x.seen,x.spent⟩) (by rw[List.nil_append];exact hb) ?_).trans ?_
 . show Ca_ ⟨x.book,x0.G_,x0.notes,x.seen,x.spent⟩=text
   rw[hxx];exact htx
 . show ((⟨x.book,x0.G_,x0.notes,x.seen,x.spent⟩:Aa_),(0:Int))=(x,0)
   rw[hxx]
theorem shopOf_none {l:List W_} {n:Bs} (h:∀ s∈l,s.name≠n):Ef_ l n=none:=by
 unfold Ef_
 rw[List.find?_eq_none]
 intro s hs
 simpa using h s hs
theorem mk_fwd {b:Ap_} {x:W_} (h:Jy_ x=0) (hn:∀ s∈b.Ba_,s.name≠x.name) (hl:b.Ba_.length<8):Bw_ b x=(⟨b.Ba_++[x],b.binds⟩,0):=by
 unfold Bw_
 have e:decide (8<=(b.Ba_.length:Int))=false:=decide_eq_false (by omega)
 rw[h,shopOf_none hn,e]
 simp
theorem there_none {b:Ap_} {x:Q_} (h:x∉b.binds):Bk_ b x<0:=by
 unfold Bk_
 by_cases q:0<=idxP (λz_4:Q_=>decide (x=z_4)) b.binds
 . have h1:=Sg_ (p:=λz_4:Q_=>decide (x=z_4)) q
   have h2:=Hg_ (λz_4:Q_=>decide (x=z_4)) b.binds
   rw[decide_eq_true_eq] at h1
   exact (h (h1 ▸ H3_ (by omega))).elim
 . omega
theorem bd_fwd {b:Ap_} {x:Q_} {s:W_} (hs:Ef_ b.Ba_ x.A9_=some s) (hr:s.sort≠4) (hn:Et_ x.to'=0) (he:Px_ (Io_ x s.sort)=0) (hx:x∉b.binds) (hl:b.binds.length<32):A3_ b x=(⟨b.Ba_,b.binds++[x]⟩,0):=by
 unfold A3_
 have e:decide (32<=(b.binds.length:Int))=false:=decide_eq_false (by omega)
 have e2:decide (0<=Bk_ b x)=false:=decide_eq_false (by have :=there_none hx;omega)
 have e3:decide (s.sort=4)=false:=decide_eq_false hr
 rw[hs]
 simp only[Option.isSome_some,Option.getD_some,Bool.not_true,cond_false]
 have e4:decide (Et_ x.to'=0)=true:=decide_eq_true hn
 have e5:decide (Px_ (Io_ x s.sort)=0)=true:=decide_eq_true he
 rw[e3,e4,e5,lt,e2,e]
 simp
def QS (q0:List U_) (k:D_):Prop:=k.rows.map (·.q)=q0
theorem Tl_ {q0:List U_} {k:D_} (h:QS q0 k) (i:Int) (l:Ac_):QS q0 (Ab_ k i l):=by
 unfold QS Ab_
 dsimp only
 by_cases q:i.toNat<k.rows.length
 . exact (K5_ (λr:Fd_=>r.q) k.rows i.toNat (gt k.rows i.toNat) ⟨(gt k.rows i.toNat).q,l⟩ (getG q) rfl).trans h
 . rw[List.set_eq_of_length_le (by omega)];exact h
theorem qs_wake0 {q0:List U_}:∀ (t:List Fd_) (k:Nat) (x:D_),QS q0 x->QS q0 (Bq_ t k x)
 |[],_,_,h=>h
 |_::t,k,_,h=>qs_wake0 t (k+1) _ (Tl_ h _ _)
theorem cloQ (q0:List U_):Clw U64 (λ_=>True) (QS q0) (λ_=>True) where
 kp:=λ{k n m} _ _ h=>by
   unfold Ay_ lt
   let Q:D_×Int×Mail×Int->Prop:=λr=>QS q0 r.1/\True
   refine bt (P:=Q) (λ_=>⟨h,trivial⟩) λ_=>bt (P:=Q) (λ_=>⟨h,trivial⟩) λ_=>bt (P:=Q) (λ_=>⟨h,trivial⟩) λ_=>?_
   refine lp2E (P:=Q) (λ_=>True) ?_ λx x1 _=>?_
   . exact bt (P:=LoP _ _) (λ_=>bt (P:=LoP _ _) (λ_=>⟨h,trivial⟩) λ_=>trivial) λ_=>trivial
   . exact bt (P:=Q) (λ_=>⟨h,trivial⟩) λ_=>bt (P:=Q) (λ_=>⟨h,trivial⟩) λ_=>⟨Tl_ h _ _,trivial⟩
 kl:=λ{k n} h=>by
   unfold B2_ lt
   let Q:D_×K_×Bool->Prop:=λr=>QS q0 r.1
   exact bt (P:=Q) (λ_=>h) λ_=>Tl_ h _ _
 kr:=λ{k n i} h=>by
   unfold Ag_ lt
   let Q:D_×K_×Int->Prop:=λr=>QS q0 r.1/\True
   exact bt (P:=Q) (λ_=>⟨h,trivial⟩) λ_=>⟨Tl_ h _ _,trivial⟩
 kb:=λ{k n i} h=>by
   unfold Cj_ lt
   let Q:D_×Int->Prop:=λr=>QS q0 r.1
   exact bt (P:=Q) (λ_=>h) λ_=>Tl_ h _ _
 ks:=λ{k p m} _ h=>by
   unfold Bi_ lt
   let Q:D_×Int->Prop:=λr=>QS q0 r.1
   exact bt (P:=Q) (λ_=>h) λ_=>bt (P:=Q) (λ_=>h) λ_=>bt (P:=Q) (λ_=>h) λ_=>h
 kw:=λ{k} _ h=>qs_wake0 _ _ _ h
 kt:=λ{k t} _=>trivial
 na:=λ_ _ _=>trivial
 wd:=λh=>h
 wr:=λh=>h
 wb:=λ_=>trivial
 wp:=λ_=>trivial
theorem forget_eq (b:Ap_) (n:Bs):Db_ b n=⟨b.Ba_,b.binds.filter λy=>Ik_ y n⟩:=by
 unfold Db_
 rw[lt,V3_]
def BdG (p:E_) (a:Int) (qs:List U_) (l:List W_) (y:Q_):Prop:=
 (∃ s,Ef_ l y.A9_=some s/\s.sort≠4/\Px_ (Io_ y s.sort)=0)/\Et_ y.to'=0 /\
 (y.up=true->0<=T_ p y.to'/\D2_ p a (T_ p y.to')=true)/\(y.up=false->∃ q∈qs,q.name=y.to')
def BkG (p:E_) (a:Int) (qs:List U_) (b:Ap_):Prop:=
 (b.Ba_.map (·.name)).Nodup/\b.binds.Nodup/\(∀ s∈b.Ba_,Jy_ s=0/\(s.sort=4->0<=T_ p s.to'/\0<=Ai_ p a (T_ p s.to')))/\∀ y∈b.binds,BdG p a qs b.Ba_ y
theorem bkg_nil (p:E_) (a:Int) (qs:List U_):BkG p a qs ⟨[],[]⟩:=⟨List.nodup_nil,List.nodup_nil,(λ_ h=>by cases h),λ_ h=>by cases h⟩
theorem bkg_forget {p:E_} {a:Int} {qs qs':List U_} {b:Ap_} {n:Bs} (h:BkG p a qs b) (hq:∀ q∈qs,q.name≠n->q∈qs'):BkG p a qs' (Db_ b n):=by
 rw[forget_eq]
 obtain⟨h1,h2,h3,h4⟩:=h
 refine⟨h1,h2.filter _,h3,λy hy=>?_⟩
 obtain⟨hy1,hy2⟩:=List.mem_filter.1 hy
 obtain⟨g1,g2,g3,g4⟩:=h4 y hy1
 refine⟨g1,g2,g3,λhu=>?_⟩
 obtain⟨q,hq1,hq2⟩:=g4 hu
 refine⟨q,hq q hq1 (λe=>?_),hq2⟩
 rw[Ik_,hu,Bool.false_or,Bool.not_eq_true',decide_eq_false_iff_not] at hy2
 exact hy2 (hq2.symm.trans e)
theorem bkg_more {p:E_} {a:Int} {qs qs':List U_} {b:Ap_} (h:BkG p a qs b) (hq:∀ q∈qs,q∈qs'):BkG p a qs' b:=
 ⟨h.1,h.2.1,h.2.2.1,λy hy=>by
   obtain⟨g1,g2,g3,g4⟩:=h.2.2.2 y hy
   refine⟨g1,g2,g3,λhu=>?_⟩
   obtain⟨q,hq1,hq2⟩:=g4 hu
   exact⟨q,hq q hq1,hq2⟩⟩
theorem shopOf_app {l:List W_} {x s:W_} {n:Bs} (h:Ef_ l n=some s):Ef_ (l++[x]) n=some s:=by
 unfold Ef_ at h ⊢
 rw[List.find?_append,h];rfl
theorem shopOf_nm {l:List W_} {n:Bs} (h:¬(Ef_ l n).isSome=true):∀ s∈l,s.name≠n:=by
 unfold Ef_ at h
 intro s hs e
 apply h
 rw[List.find?_isSome]
 exact⟨s,hs,by simpa using e⟩
theorem bkg_make {p:E_} {a:Int} {qs:List U_} {b:Ap_} {x:W_} (h:BkG p a qs b) (hx:x.sort=4->0<=T_ p x.to'/\0<=Ai_ p a (T_ p x.to')):BkG p a qs (Bw_ b x).1:=by
 unfold Bw_
 let Q:Ap_×Int->Prop:=λr=>BkG p a qs r.1
 refine bt (P:=Q) (λ_=>h) λe1=>bt (P:=Q) (λ_=>h) λ_=>bt (P:=Q) (λ_=>h) λe3=>bt (P:=Q) (λ_=>h) λ_=>?_
 simp only[Bool.not_eq_false',decide_eq_true_eq] at e1
 have hn:=shopOf_nm (l:=b.Ba_) (n:=x.name) (by rw[e3];decide)
 obtain⟨h1,h2,h3,h4⟩:=h
 have hf:[b.Ba_,[x]].flatten=b.Ba_++[x]:=by simp
 refine⟨?_,h2,λs hs=>?_,λy hy=>?_⟩
 . show (([b.Ba_,[x]].flatten).map (·.name)).Nodup
   rw[hf,List.map_append,List.nodup_append]
   refine⟨h1,by simp,λu hu v hv=>?_⟩
   obtain⟨s,hs,rfl⟩:=List.mem_map.1 hu
   simp only[List.map_cons,List.map_nil,List.mem_singleton] at hv
   rw[hv]
   exact hn s hs
 . rcases M7_ hs with q|q
   . exact h3 s q
   . rw[q];exact⟨e1,hx⟩
 . obtain⟨⟨s,g1,g2,g3⟩,g4⟩:=h4 y hy
   refine⟨⟨s,?_,g2,g3⟩,g4⟩
   show Ef_ [b.Ba_,[x]].flatten y.A9_=some s
   rw[hf];exact shopOf_app g1
theorem bkg_bind {p:E_} {a:Int} {qs:List U_} {b:Ap_} {x:Q_} (h:BkG p a qs b) (hu:x.up=true->0<=T_ p x.to'/\D2_ p a (T_ p x.to')=true) (hq:x.up=false->∃ q∈qs,q.name=x.to'):BkG p a qs (A3_ b x).1:=by
 unfold A3_
 let Q:Ap_×Int->Prop:=λr=>BkG p a qs r.1
 refine bt (P:=Q) (λ_=>h) λe1=>bt (P:=Q) (λ_=>h) λe2=>bt (P:=Q) (λ_=>h) λe3=>bt (P:=Q) (λ_=>h) λe4=>?_
 unfold lt
 refine bt (P:=Q) (λ_=>h) λe5=>bt (P:=Q) (λ_=>h) λ_=>?_
 simp only[Bool.not_eq_false'] at e1
 simp only[decide_eq_false_iff_not] at e2 e5
 simp only[Bool.not_eq_false',decide_eq_true_eq] at e3 e4
 obtain⟨s,hs⟩:=Option.isSome_iff_exists.1 e1
 rw[hs] at e2 e4
 obtain⟨h1,h2,h3,h4⟩:=h
 have hf:[b.binds,[x]].flatten=b.binds++[x]:=by simp
 have hnot:x∉b.binds:=λhm=>by
   have hlt:Bk_ b x<0:=by omega
   unfold Bk_ at hlt
   have :=List.find?_eq_none.1 (O7_ hlt) x hm
   simp at this
 refine⟨h1,?_,h3,λy hy=>?_⟩
 . show ([b.binds,[x]].flatten).Nodup
   rw[hf,List.nodup_append]
   refine⟨h2,by simp,λu hu v hv=>?_⟩
   simp only[List.mem_singleton] at hv
   rw[hv]
   intro e
   exact hnot (e ▸ hu)
 . rcases M7_ hy with q|q
   . exact h4 y q
   . rw[q]
     exact⟨⟨s,hs,e2,e4⟩,e3,hu,hq⟩
theorem bkg_unbind {p:E_} {a:Int} {qs:List U_} {b:Ap_} {x:Q_} (h:BkG p a qs b):BkG p a qs (Cv_ b x).1:=by
 unfold Cv_ lt
 let Q:Ap_×Int->Prop:=λr=>BkG p a qs r.1
 refine bt (P:=Q) (λ_=>h) λe=>?_
 simp only[decide_eq_false_iff_not] at e
 have hk:(Bk_ b x+1).toNat=(Bk_ b x).toNat+1:=by omega
 have hs:([b.binds.take (Bk_ b x).toNat,b.binds.drop (Bk_ b x+1).toNat].flatten).Sublist b.binds:=by rw[hk];exact P1_ _ _
 exact⟨h.1,hs.nodup h.2.1,h.2.2.1,λy hy=>h.2.2.2 y (hs.subset hy)⟩
theorem shopOf_cut {l:List W_} {n m:Bs} {k:Nat} (hk:k<l.length) (hm:(gt l k).name=m) (hn:n≠m):Ef_ [l.take k,l.drop (k+1)].flatten n=Ef_ l n:=by
 have hg:l.drop k=gt l k::l.drop (k+1):=Gb_ hk
 have hl:l=l.take k++(gt l k::l.drop (k+1)):=by rw[<- hg,List.take_append_drop]
 have hf:[l.take k,l.drop (k+1)].flatten=l.take k++l.drop (k+1):=by simp
 rw[hf]
 conv=>rhs;rw[hl]
 unfold Ef_
 rw[List.find?_append,List.find?_append,List.find?_cons_of_neg]
 rw[decide_eq_true_eq,hm]
 exact λe=>hn e.symm
theorem bkg_drop {p:E_} {a:Int} {qs:List U_} {b:Ap_} {n:Bs} (h:BkG p a qs b):BkG p a qs (Dj_ b n).1:=by
 have hb:=Hg_ (λz_5:W_=>(Co_ z_5 n)) b.Ba_
 unfold Dj_ lt
 let Q:Ap_×Int->Prop:=λr=>BkG p a qs r.1
 refine bt (P:=Q) (λ_=>h) λe=>?_
 simp only[decide_eq_false_iff_not] at e
 have hp:=Sg_ (p:=λz_5:W_=>(Co_ z_5 n)) (l:=b.Ba_) (by omega)
 generalize idxP (λz_5:W_=>(Co_ z_5 n)) b.Ba_=r at *
 have hk:(r+1).toNat=r.toNat+1:=by omega
 rw[hk,V3_]
 have hs:=P1_ b.Ba_ r.toNat
 have hnm:(gt b.Ba_ r.toNat).name=n:=by simpa [Co_] using hp
 refine⟨(hs.map _).nodup h.1,h.2.1.filter _,λs hm=>h.2.2.1 s (hs.subset hm),λy hy=>?_⟩
 obtain⟨hy1,hy2⟩:=List.mem_filter.1 hy
 obtain⟨⟨s,g1,g2,g3⟩,g4⟩:=h.2.2.2 y hy1
 have hne:y.A9_≠n:=by simpa [Lj_] using hy2
 refine⟨⟨s,?_,g2,g3⟩,g4⟩
 show Ef_ [b.Ba_.take r.toNat,b.Ba_.drop (r.toNat+1)].flatten y.A9_=some s
 rw[shopOf_cut (by omega) hnm hne]
 exact g1
def SbG (s:C_):Prop:=BkG s.M_ s.place (s.x.G_.rows.map (·.q)) s.x.book
theorem make_more (k:D_) (q:U_):∀ x∈k.rows.map (·.q),x∈(Al_ k q).1.rows.map (·.q):=by
 unfold Al_ lt
 let R:D_×Int->Prop:=λr=>∀ x∈k.rows.map (·.q),x∈r.1.rows.map (·.q)
 refine bt (P:=R) (λ_ _ h=>h) λ_=>bt (P:=R) (λ_ _ h=>h) λ_=>bt (P:=R) (λ_ _ h=>h) λ_=>bt (P:=R) (λ_ _ h=>h) λ_=>λx hx=>?_
 show x∈([k.rows,[(⟨q,⟨[]⟩⟩:Fd_)]].flatten).map (·.q)
 simp only[List.flatten_cons,List.flatten_nil,List.append_nil,List.map_append,List.mem_append]
 exact .inl hx
theorem drop_more (k:D_) (n:Bs):∀ x∈k.rows.map (·.q),x.name≠n->x∈(A6_ k n).1.rows.map (·.q):=by
 have hb:=at_b k n
 unfold A6_ lt
 let R:D_×Int->Prop:=λr=>∀ x∈k.rows.map (·.q),x.name≠n->x∈r.1.rows.map (·.q)
 refine bt (P:=R) (λ_ _ h _=>h) λe=>λx hx hne=>?_
 simp only[decide_eq_false_iff_not] at e
 obtain⟨r,hr,rfl⟩:=List.mem_map.1 hx
 have hat:=at_n (s:=k) (n:=n) (by omega)
 refine List.mem_map.2 ⟨r,?_,rfl⟩
 show r∈[k.rows.take (I_ k n).toNat,k.rows.drop (I_ k n+1).toNat].flatten
 have hk:(I_ k n+1).toNat=(I_ k n).toNat+1:=by omega
 rw[hk]
 have hg:k.rows.drop (I_ k n).toNat=gt k.rows (I_ k n).toNat::k.rows.drop ((I_ k n).toNat+1):=Gb_ (by omega)
 have hl:k.rows=k.rows.take (I_ k n).toNat++(gt k.rows (I_ k n).toNat::k.rows.drop ((I_ k n).toNat+1)):=by rw[<- hg,List.take_append_drop]
 rw[hl] at hr
 simp only[List.flatten_cons,List.flatten_nil,List.append_nil]
 rcases List.mem_append.1 hr with q|q
 . exact List.mem_append.2 (.inl q)
 . rcases List.mem_cons.1 q with q|q
   . exact (hne (by rw[q];exact hat)).elim
   . exact List.mem_append.2 (.inr q)
theorem queue_in {k:D_} {n:Bs} (h:(Af_ k n).2=true):∃ q∈k.rows.map (·.q),q.name=n:=by
 have hb:=at_b k n
 by_cases e:I_ k n<0
 . unfold Af_ at h
   rw[lt,decide_eq_true e] at h
   cases h
 . have hat:=at_n (s:=k) (n:=n) (by omega)
   exact⟨_,List.mem_map.2 ⟨_,H3_ (by omega),rfl⟩,hat⟩
theorem drop_same {k:D_} {n:Bs} (h:¬(A6_ k n).2=0):(A6_ k n).1=k:=by
 revert h
 unfold A6_ lt
 let R:D_×Int->Prop:=λr=>¬r.2=0->r.1=k
 exact bt (P:=R) (λ_ _=>rfl) λ_ h=>(h rfl).elim
theorem doBk {s:C_} {d:O_} (ht:U64 d.tick) (hc:0<=d.code/\d.code<=255) (h:StOk s) (h0:0<=d.Z_.hops) (hs:SbG s):SbG (P_ s d).1:=by
 have key:∀ t:C_,Kw U64 (QS (s.x.G_.rows.map (·.q))) (λ_=>True) s t->SbG t:=λt e=>by
   have hk:t.x.G_.rows.map (·.q)=s.x.G_.rows.map (·.q):=e.k
   unfold SbG
   rw[e.po,e.pl,e.bo,hk]
   exact hs
 rcases do_w (cloQ (s.x.G_.rows.map (·.q))) ht hc h h0 trivial (⟨rfl,rfl,rfl,rfl,trivial,rfl,λ_=>id⟩:Kw U64 (QS (s.x.G_.rows.map (·.q))) (λ_=>True) s s) with e|(e|e)|e|e
 . rw[e];exact hs
 . exact key _ e
 . have hk:(P_ s d).1.x.G_.rows.map (·.q)=s.x.G_.rows.map (·.q):=e.k
   have h1:(P_ s d).1.M_=s.M_:=e.po
   have h2:(P_ s d).1.place=s.place:=e.pl
   have h3:(P_ s d).1.x.book=s.x.book:=e.bo
   unfold SbG
   rw[h1,h2,h3,hk]
   exact hs
 . rw[e]
   unfold A2_ lt
   let Q:C_×Int->Prop:=λr=>SbG r.1
   refine bt (P:=Q) (λ_=>bkg_more hs (make_more _ _)) λ_=>bt (P:=Q) (λ_=>bkg_forget hs (drop_more _ _)) λe2=>?_
   simp only[decide_eq_false_iff_not] at e2
   show BkG s.M_ s.place ((A6_ s.x.G_ d.name).1.rows.map (·.q)) s.x.book
   rw[drop_same e2];exact hs
 . rw[e]
   unfold Ax_ lt
   let Q:C_×Int->Prop:=λr=>SbG r.1
   have hn:∀ {e},Q (s,e):=hs
   refine bt (P:=Q) (λ_=>?_) λ_=>?_
   . refine lp0E (P:=Q) (λ_=>d.A9_.sort=4->0<=T_ s.M_ d.A9_.to'/\0<=Ai_ s.M_ s.place (T_ s.M_ d.A9_.to')) ?_ λhx=>bkg_make hs hx
     refine bt (P:=LoP _ _) (λ_=>bt (P:=LoP _ _) (λ_=>hn) λc2=>bt (P:=LoP _ _) (λ_=>hn) λc3=>?_) λc=>?_
     . simp only[decide_eq_false_iff_not] at c2 c3
       exact λ_=>⟨by omega,by omega⟩
     . simp only[decide_eq_false_iff_not] at c
       exact λh4=>(c h4).elim
   . refine bt (P:=Q) (λ_=>bkg_drop hs) λ_=>bt (P:=Q) (λ_=>bkg_unbind hs) λ_=>?_
     refine lp0E (P:=Q) (λ_=>(d.bind.up=true->0<=T_ s.M_ d.bind.to'/\D2_ s.M_ s.place (T_ s.M_ d.bind.to')=true)/\(d.bind.up=false->(Af_ s.x.G_ d.bind.to').2=true)) ?_ λhx=>bkg_bind hs hx.1 λhu=>queue_in (hx.2 hu)
     unfold lt1
     refine bt (P:=LoP _ _) (λ_=>hn) λc=>bt (P:=LoP _ _) (λ_=>hn) λc2=>?_
     refine⟨λhu=>?_,λhu=>?_⟩
     . rw[hu] at c c2
       simp only[Bool.true_and,Bool.not_eq_false'] at c c2
       refine⟨?_,c2⟩
       by_cases q:T_ s.M_ d.bind.to'<0
       . rw[decide_eq_true q] at c;cases c
       . omega
     . rw[hu] at c
       simpa using c
theorem dshop_e {s:W_} (h:Jy_ s=0):Fs_ (N3_ s)=0:=by
 have h3:=Tq_ h
 unfold Jy_ at h
 split at h
 . rename_i q;exact (q h).elim
 . rename_i q1
   split at h
   . cases h
   . have hm:J1_ s.to'=0:=by
       unfold J1_
       split at h
       . split<;>first|rfl|exact h
       . split at h
         . cases h
         . rename_i q3
           rw[if_pos (by simpa using q3)]
     have hn:Et_ s.name=0:=by simpa using q1
     unfold Fs_ N3_
     rw[if_neg (show ¬(12:Int)<0 by decide),if_neg (by simp[G4_];exact⟨rfl,rfl,rfl⟩),if_pos rfl]
     simp[Il_,Hl_,hn,hm,h3.2.2]
def Rt_ (q:U_):O_:=(⟨2,0,(⟨[],0,[]⟩:W_),q,(⟨[],[],false,[],[],false⟩:Q_),[],0,0,0,0,0,(⟨0,[],[],[],[],0,0⟩:Mail),[]⟩:O_)
theorem dqueue_e {q:U_} (h:Bh_ q=0):Fs_ (Rt_ q)=0:=by
 have hn:Et_ q.name=0:=by
   by_cases e:Et_ q.name=0
   . exact e
   . unfold Bh_ at h
     rw[decide_eq_false e] at h
     exact (e h).elim
 have hm:J1_ q.dead=0:=by
   unfold J1_
   by_cases e:q.dead=[]
   . rw[if_pos e]
   . rw[if_neg e]
     unfold Bh_ at h
     rw[decide_eq_true hn,decide_eq_false e] at h
     revert h
     cases ((decide (q.most<1))||(decide (64<q.most))) with
     |true=>intro h;cases h
     |false=>intro h;exact h
 unfold Fs_ Rt_
 rw[if_neg (show ¬(12:Int)<2 by decide),if_neg (by simp[G4_];exact⟨rfl,rfl,rfl⟩),if_neg (show ¬(2:Int)=0 by decide),if_pos rfl]
 simp[Il_,hn,hm]
theorem dbind_e {y:Q_} (hb:BiB y) (hs:Et_ y.A9_=0):Fs_ (Ll_ y)=0:=by
 obtain⟨h1,h2,h3,h4,_⟩:=hb
 unfold Fs_ Ll_
 rw[if_neg (show ¬(12:Int)<4 by decide),if_neg (by simp[G4_];exact⟨rfl,rfl,rfl⟩),if_neg (show ¬(4:Int)=0 by decide),if_neg (show ¬(4:Int)=2 by decide),if_pos (.inl rfl)]
 simp[Il_,Hl_,hs,h2,h4]
 omega
def iz:List K_->Int
 |[]=>0
 |x::l=>Ep_ x.Z_+iz l
def rz:List Fd_->Int
 |[]=>0
 |x::l=>iz x.l.items+rz l
def uz (a:A16_RiseR):Nat->Int
 |0=>0
 |n+1=>De_ (A16.get a (15-n))+uz a n
theorem Yn_:∀ (t:List K_) (n:Int),B5_ t n=n+iz t
 |[],n=>by simp[B5_,iz]
 |x::t,n=>by
   unfold B5_ lt
   dsimp only
   rw[Yn_ t]
   simp only[iz];omega
theorem lsize_eq (l:Ac_):Ew_ l=iz l.items:=by
 unfold Ew_
 rw[Yn_];omega
theorem Xs_ (s:D_):∀ (f:Nat) (n:Int) (k:Nat),k<=16->k<f->C2_ s f n (16-k)=n+uz s.rises k
 |0,n,k,_,h=>by omega
 |f+1,n,0,_,_=>by
   unfold C2_
   simp[uz]
 |f+1,n,k+1,h1,h2=>by
   unfold C2_ lt
   rw[decide_eq_true (show ((16-(k+1):Nat):Int)<16 by omega),cond_true]
   have :=Xs_ s f (n+De_ (A16.get s.rises (16-(k+1)))) k (by omega) (by omega)
   dsimp only
   rw[show 16-(k+1)+1=16-k by omega,this]
   simp only[uz]
   rw[show 16-(k+1)=15-k by omega]
   omega
theorem Xr_ (s:D_):∀ (t:List Fd_) (n:Int),Bp_ s t n=n+rz t+uz s.rises 16
 |[],n=>by
   unfold Bp_
   have :=Xs_ s (16-0+1) n 16 (by omega) (by omega)
   rw[this];simp[rz]
 |x::t,n=>by
   unfold Bp_ lt
   dsimp only
   rw[Xr_ s t,lsize_eq]
   simp only[rz];omega
theorem V7_ (s:D_):Cw_ s=rz s.rows+uz s.rises 16:=by
 unfold Cw_
 rw[Xr_];omega
theorem uz_far (a:A16_RiseR) (v:Bc_) (m:Nat) (hm:m<16):∀ k,k<=16->k<16-m->uz (A16.set a v m) k=uz a k
 |0,_,_=>rfl
 |k+1,h1,h2=>by
   simp only[uz]
   rw[uz_far a v m hm k (by omega) (by omega),A16.get_set _ _ _ _ hm (by omega),if_neg (by omega)]
theorem uz_set (a:A16_RiseR) (v:Bc_) (m:Nat) (hm:m<16):∀ k,k<=16->16-m<=k->uz (A16.set a v m) k=uz a k-De_ (A16.get a m)+De_ v
 |0,_,h=>by omega
 |k+1,h1,h2=>by
   simp only[uz]
   rw[A16.get_set _ _ _ _ hm (by omega)]
   by_cases q:15-k=m
   . subst q
     rw[if_pos rfl,uz_far a v (15-k) hm k (by omega) (by omega)];omega
   . rw[if_neg q,uz_set a v m hm k (by omega) (by omega)];omega
theorem Uk_:∀ a b:List K_,iz (a++b)=iz a+iz b
 |[],b=>by simp[iz]
 |x::a,b=>by simp only[List.cons_append,iz,Uk_ a b];omega
theorem rz_app:∀ a b:List Fd_,rz (a++b)=rz a+rz b
 |[],b=>by simp[rz]
 |x::a,b=>by simp only[List.cons_append,rz,rz_app a b];omega
theorem iz_nn:∀ l:List K_,0<=iz l
 |[]=>Int.le_refl _
 |x::l=>by
   have :=iz_nn l
   have :=(Qw_ x.Z_).1
   simp only[iz];omega
theorem rz_set:∀ (l:List Fd_) (k:Nat) (x:Fd_),k<l.length->rz (l.set k x)=rz l-iz (gt l k).l.items+iz x.l.items
 |[],k,x,h=>by cases h
 |y::l,0,x,h=>by
   have e:gt (y::l) 0=y:=rfl
   simp only[List.set_cons_zero,rz,e];omega
 |y::l,k+1,x,h=>by
   have :=rz_set l k x (by simpa using h)
   have e:gt (y::l) (k+1)=gt l k:=by simp[gt]
   simp only[List.set_cons_succ,rz,e];omega
theorem rz_cut (l:List Fd_) (k:Nat):rz (l.take k++l.drop (k+1))<=rz l:=by
 conv=>rhs;rw[<- List.take_append_drop k l]
 rw[rz_app,rz_app]
 cases e:l.drop k with
 |nil=>
   have :l.drop (k+1)=[]:=by
     rw[List.drop_eq_nil_iff] at e ⊢;omega
   rw[this];omega
 |cons x t=>
   have :l.drop (k+1)=t:=by
     have :=congrArg (List.drop 1) e
     simpa [List.drop_drop,Nat.add_comm] using this
   rw[this]
   have :=iz_nn x.l.items
   simp only[rz];omega
theorem iz_set:∀ (l:List K_) (k:Nat) (x:K_),x.Z_=(gt l k).Z_->iz (l.set k x)=iz l
 |[],k,x,_=>rfl
 |y::l,0,x,h=>by
   have e:gt (y::l) 0=y:=rfl
   rw[e] at h
   simp only[List.set_cons_zero,iz,h]
 |y::l,k+1,x,h=>by
   have e:gt (y::l) (k+1)=gt l k:=by simp[gt]
   rw[e] at h
   simp only[List.set_cons_succ,iz,iz_set l k x h]
theorem iz_cut (l:List K_) (k:Nat):iz (l.take k++l.drop (k+1))<=iz l:=by
 conv=>rhs;rw[<- List.take_append_drop k l]
 rw[Uk_,Uk_]
 cases e:l.drop k with
 |nil=>
   have :l.drop (k+1)=[]:=by
     rw[List.drop_eq_nil_iff] at e ⊢;omega
   rw[this];omega
 |cons x t=>
   have :l.drop (k+1)=t:=by
     have :=congrArg (List.drop 1) e
     simpa [List.drop_drop,Nat.add_comm] using this
   rw[this]
   have :=(Qw_ x.Z_).1
   simp only[iz];omega
theorem llend_iz (l:Ac_):iz (Cz_ l).1.items=iz l.items:=by
 unfold Cz_ lt
 let Q:Ac_×K_×Bool->Prop:=λr=>iz r.1.items=iz l.items
 exact bt (P:=Q) (λ_=>rfl) λ_=>iz_set _ _ _ rfl
theorem lrem_iz (l:Ac_) (id:Int):iz (Ak_ l id).1.items<=iz l.items:=by
 unfold Ak_ lt
 let Q:Ac_×K_×Int->Prop:=λr=>iz r.1.items<=iz l.items
 refine bt (P:=Q) (λ_=>Int.le_refl _) λe=>?_
 simp only[decide_eq_false_iff_not] at e
 have :(Bb_ l id+1).toNat=(Bb_ l id).toNat+1:=by omega
 show iz ([(l.items.take (Bb_ l id).toNat),(l.items.drop (Bb_ l id+1).toNat)].flatten)<=_
 rw[this]
 simp only[List.flatten_cons,List.flatten_nil,List.append_nil]
 exact iz_cut _ _
def KOk (b:Int) (k:D_):Prop:=k.bytes=b/\rz k.rows+uz k.rises 16<=b
theorem rz_set_le (l:List Fd_) (k:Nat) (x:Fd_) (h:iz x.l.items<=iz (gt l k).l.items):rz (l.set k x)<=rz l:=by
 by_cases q:k<l.length
 . rw[rz_set l k x q];omega
 . rw[List.set_eq_of_length_le (by omega)];exact Int.le_refl _
theorem V8_ {b:Int} {s:D_} {k:Int} {l:Ac_} (h:KOk b s) (hl:iz l.items<=iz (gt s.rows k.toNat).l.items):KOk b (Ab_ s k l):=by
 refine⟨h.1,?_⟩
 have :=h.2
 have :=rz_set_le s.rows k.toNat ⟨(gt s.rows k.toNat).q,l⟩ hl
 show rz (s.rows.set _ _)+uz s.rises 16<=b
 omega
theorem kmake_k {b:Int} {s:D_} {q:U_} (h:KOk b s):KOk b (Al_ s q).1:=by
 unfold Al_ lt
 let Q:D_×Int->Prop:=λr=>KOk b r.1
 refine bt (P:=Q) (λ_=>h) λ_=>bt (P:=Q) (λ_=>h) λ_=>bt (P:=Q) (λ_=>h) λ_=>bt (P:=Q) (λ_=>h) λ_=>⟨h.1,?_⟩
 show rz ([s.rows,[⟨q,⟨[]⟩⟩]].flatten)+_<=b
 simp only[List.flatten_cons,List.flatten_nil,List.append_nil,rz_app,rz,iz]
 have :=h.2
 show _+uz s.rises 16<=b
 omega
theorem kdrop_k {b:Int} {s:D_} {n:Bs} (h:KOk b s):KOk b (A6_ s n).1:=by
 unfold A6_ lt
 let Q:D_×Int->Prop:=λr=>KOk b r.1
 refine bt (P:=Q) (λ_=>h) λe=>⟨h.1,?_⟩
 simp only[decide_eq_false_iff_not] at e
 have e1:(I_ s n+1).toNat=(I_ s n).toNat+1:=by omega
 show rz ([(s.rows.take (I_ s n).toNat),(s.rows.drop (I_ s n+1).toNat)].flatten)+uz s.rises 16<=b
 rw[e1]
 simp only[List.flatten_cons,List.flatten_nil,List.append_nil]
 have :=rz_cut s.rows (I_ s n).toNat
 have :=h.2
 omega
theorem klend_k {b:Int} {s:D_} {n:Bs} (h:KOk b s):KOk b (B2_ s n).1:=by
 unfold B2_ lt
 let Q:D_×K_×Bool->Prop:=λr=>KOk b r.1
 exact bt (P:=Q) (λ_=>h) λ_=>V8_ h (Int.le_of_eq (llend_iz _))
theorem krem_k {b:Int} {s:D_} {n:Bs} {id:Int} (h:KOk b s):KOk b (Ag_ s n id).1:=by
 unfold Ag_ lt
 let Q:D_×K_×Int->Prop:=λr=>KOk b r.1
 exact bt (P:=Q) (λ_=>h) λ_=>V8_ h (lrem_iz _ _)
theorem iz_set2 (l:List K_) (k:Nat) (a b c d:Bool):iz ((l.set k ⟨(gt l k).Z_,a,b⟩).set k ⟨(gt (l.set k ⟨(gt l k).Z_,a,b⟩) k).Z_,c,d⟩)=iz l:=
 (iz_set (l.set k ⟨(gt l k).Z_,a,b⟩) k ⟨(gt (l.set k ⟨(gt l k).Z_,a,b⟩) k).Z_,c,d⟩ rfl).trans (iz_set l k ⟨(gt l k).Z_,a,b⟩ rfl)
theorem lback_iz (l:Ac_) (id:Int):iz (D7_ l id).1.items=iz l.items:=by
 unfold D7_ lt
 let Q:Ac_×Int->Prop:=λr=>iz r.1.items=iz l.items
 refine bt (P:=Q) (λ_=>rfl) λ_=>bt (P:=Q) (λ_=>rfl) λ_=>?_
 exact iz_set2 _ _ _ _ _ _
theorem S7_:∀ (t:List K_) (k:Nat) (x:Ac_),iz (B6_ t k x).items=iz x.items
 |[],k,x=>rfl
 |y::t,k,x=>by
   unfold B6_
   let Q:Ac_->Prop:=λr=>iz r.items=iz x.items
   exact bt (P:=Q) (λ_=>(S7_ t _ _).trans (iz_set2 _ _ _ _ _ _)) λ_=>S7_ t _ _
theorem lwake_iz (l:Ac_):iz (Ej_ l).items=iz l.items:=S7_ _ _ _
theorem kback_k {b:Int} {s:D_} {n:Bs} {id:Int} (h:KOk b s):KOk b (Cj_ s n id).1:=by
 unfold Cj_ lt
 let Q:D_×Int->Prop:=λr=>KOk b r.1
 exact bt (P:=Q) (λ_=>h) λ_=>V8_ h (Int.le_of_eq (lback_iz _ _))
theorem kraise_k {b:Int} {s:D_} {p:Int} {m:Mail} (h:KOk b s):KOk b (Bi_ s p m).1:=by
 unfold Bi_ lt
 let Q:D_×Int->Prop:=λr=>KOk b r.1
 refine bt (P:=Q) (λ_=>h) λe1=>?_
 simp only[Bool.or_eq_false_iff,decide_eq_false_iff_not] at e1
 refine bt (P:=Q) (λ_=>h) λ_=>bt (P:=Q) (λ_=>h) λe=>⟨h.1,?_⟩
 simp only[decide_eq_false_iff_not] at e
 rw[V7_] at e
 have h1:=h.1
 show rz s.rows+uz (A16.set s.rises _ p.toNat) 16<=b
 rw[uz_set _ _ _ (by omega) 16 (by omega) (by omega)]
 omega
theorem kwake_k0 {b:Int}:∀ (t:List Fd_) (k:Nat) (x:D_),KOk b x->(∀ i,i<t.length->gt x.rows (k+i)=gt t i)->KOk b (Bq_ t k x)
 |[],k,x,h,_=>h
 |y::t,k,x,h,hr=>by
   unfold Bq_ lt
   have h0:gt x.rows k=y:=hr 0 (by simp)
   refine kwake_k0 t (k+1) _ (V8_ h (by rw[lwake_iz];rw[Int.toNat_natCast,h0];exact Int.le_refl _)) λi hi=>?_
   show gt (x.rows.set ((k:Int)).toNat _) (k+1+i)=_
   rw[Int.toNat_natCast]
   have :gt (x.rows.set k ⟨(gt x.rows k).q,Ej_ y.l⟩) (k+1+i)=gt x.rows (k+1+i):=by
     simp only[gt,List.getD_eq_getElem?_getD]
     rw[List.getElem?_set_ne (by omega)]
   rw[this,show k+1+i=k+(i+1) by omega,hr (i+1) (by simp;omega)]
   simp[gt]
theorem kwake_k {b:Int} {s:D_} (h:KOk b s):KOk b (Eo_ s):=kwake_k0 s.rows 0 s h λi _=>by rw[Nat.zero_add]
theorem lrem_eq {l:Ac_} (h:LnOk l) {k:Nat} (hk:k<l.items.length):iz (Ak_ l (gt l.items k).Z_.id).1.items+Ep_ (gt l.items k).Z_=iz l.items:=by
 unfold Ak_ lt
 dsimp only
 rw[Wh_ h hk]
 have e:decide ((k:Int)<0)=false:=by simp
 rw[e,cond_false]
 show iz ([(l.items.take ((k:Int)).toNat),(l.items.drop ((k:Int)+1).toNat)].flatten)+_=_
 rw[show ((k:Int)+1).toNat=k+1 by omega,Int.toNat_natCast]
 simp only[List.flatten_cons,List.flatten_nil,List.append_nil]
 conv=>rhs;rw[<- List.take_append_drop k l.items]
 rw[Uk_,Uk_]
 have e2:l.items.drop k=gt l.items k::l.items.drop (k+1):=by
   rw[List.drop_eq_getElem_cons hk]
   simp[gt,hk]
 rw[e2]
 simp only[iz];omega
theorem ladd_iz {l:Ac_} {m:Mail} (e:(Cn_ l m).2=0):iz (Cn_ l m).1.items=iz l.items+Ep_ m:=by
 revert e
 unfold Cn_ Eb_ lt
 dsimp only
 let Q:Ac_×Int->Prop:=λr=>r.2=0->iz r.1.items=iz l.items+Ep_ m
 refine bt (P:=Q) (λe h=>?_) λ_ _=>?_
 . simp only[Bool.not_eq_true',decide_eq_false_iff_not] at e
   exact (e h).elim
 . show iz ([l.items,[B3_ ⟨m,false,false⟩]].flatten)=_
   simp only[List.flatten_cons,List.flatten_nil,List.append_nil,Uk_,iz]
   rw[show (B3_ ⟨m,false,false⟩).Z_=m from rfl];omega
theorem zsize:Ep_ ⟨0,[],[],[],[],0,0⟩=0:=by decide +kernel
theorem kput_k {b:Int} {s:D_} {n:Bs} {m:Mail} (hs:StkOk s) (h:KOk b s):KOk b (Ay_ s n m).1:=by
 unfold Ay_ lt
 let Q:D_×Int×Mail×Int->Prop:=λr=>KOk b r.1
 refine bt (P:=Q) (λ_=>h) λe=>?_
 refine bt (P:=Q) (λ_=>h) λ_=>?_
 refine bt (P:=Q) (λ_=>h) λ_=>?_
 simp only[decide_eq_false_iff_not] at e
 have hb:=at_b s n
 obtain⟨k,hk⟩:∃ k:Nat,I_ s n=k:=⟨_,(Int.toNat_of_nonneg (by omega)).symm⟩
 rw[hk] at hb ⊢
 simp only[Int.toNat_natCast]
 have hl:LnOk (gt s.rows k).l:=RwsOk.at hs.1 (getG (by omega))
 refine lp2E (P:=Q) (λq=>iz q.1.items+Ep_ q.2=iz (gt s.rows k).l.items) ?_ λx x1 hx=>?_
 . refine bt (P:=LoP _ _) (λ_=>?_) λ_=>by show iz (gt s.rows k).l.items+Ep_ ⟨0,[],[],[],[],0,0⟩=_;rw[zsize];omega
   refine bt (P:=LoP _ _) (λ_=>h) λe2=>?_
   obtain⟨j,hj,he⟩:=Ye_ (l:=(gt s.rows k).l) (by simpa using e2)
   show iz _+Ep_ _=_
   rw[he]
   exact lrem_eq hl hj
 . refine bt (P:=Q) (λ_=>h) λe3=>bt (P:=Q) (λ_=>h) λe4=>⟨h.1,?_⟩
   simp only[decide_eq_false_iff_not] at e3
   have e4':(Cn_ x ⟨s.next,m.A9_,m.key,m.head,m.body,m.due,m.hops⟩).2=0:=by simpa using e4
   have h4:=ladd_iz e4'
   unfold Dk_ at e3
   rw[V7_] at e3
   have h1:=h.1
   have hx':iz x.items+Ep_ x1=iz (gt s.rows k).l.items:=hx
   show rz (s.rows.set ((k:Int)).toNat _)+uz s.rises 16<=b
   rw[Int.toNat_natCast,rz_set _ _ _ (by omega)]
   dsimp only
   omega
theorem cloK (b:Int):Clw U64 (λ_=>True) (KOk b) (λ_=>True) where
 kp:=λ{k n m} hs _ h=>⟨kput_k (n:=n) (m:=m) hs h,trivial⟩
 kl:=λ{k n} h=>klend_k (n:=n) h
 kr:=λ{k n i} h=>⟨krem_k (n:=n) (id:=i) h,trivial⟩
 kb:=λ{k n i} h=>kback_k (n:=n) (id:=i) h
 ks:=λ{k p m} _ h=>kraise_k (p:=p) (m:=m) h
 kw:=λ{k} _ h=>kwake_k h
 kt:=λ{k t} _=>trivial
 na:=λ_ _ _=>trivial
 wd:=λh=>h
 wr:=λh=>h
 wb:=λ_=>trivial
 wp:=λ_=>trivial
def Sn (a:A16_u64):Prop:=∀ i,i<16->U64 (A16.get a i)
theorem Sn.set {a:A16_u64} (h:Sn a) {x:Int} (hx:U64 x) (k:Nat):Sn (A16.set a x k):=by
 have key:∀ k,k<16->Sn (A16.set a x k):=λk hk i hi=>by
   rw[A16.get_set _ _ _ _ hk hi]
   by_cases q:i=k
   . rw[if_pos q];exact hx
   . rw[if_neg q];exact h i hi
 by_cases q:k<16
 . exact key k q
 . obtain⟨n,rfl⟩:∃ n,k=n+16:=⟨_,(Nat.sub_add_cancel (by omega)).symm⟩
   exact key 15 (by decide)
structure Rk (p:E_) (a b:Int) (s:C_):Prop where
 po:s.M_=p
 pl:s.place=a
 k:KOk b s.x.G_
 se:Sn s.x.seen
 sp:Sp s.x.spent
theorem doK {p:E_} {a b:Int} {s:C_} {d:O_} (ht:U64 d.tick) (hc:0<=d.code/\d.code<=255) (hn:U64 d.number) (h:StOk s) (h0:0<=d.Z_.hops) (hs:Rk p a b s):Rk p a b (P_ s d).1:=by
 obtain⟨h1,h2,h3,h4,h5⟩:=hs
 rcases do_w (cloK b) ht hc h h0 trivial (⟨rfl,rfl,rfl,h3,trivial,rfl,λ_=>id⟩:Kw U64 (KOk b) (λ_=>True) s s) with e|(e|e)|e|e
 . rw[e];exact⟨h1,h2,h3,h4,h5⟩
 . exact⟨e.po.trans h1,e.pl.trans h2,e.k,by rw[e.se];exact h4,e.sp (λ_ h=>h) h5⟩
 . exact⟨e.po.trans h1,e.pl.trans h2,e.k,by rw[e.se];exact h4.set hn _,e.sp (λ_ h=>h) h5⟩
 . obtain⟨c,k,e2,e3,_⟩:=Wn_ s d
   rw[e,e2]
   refine⟨h1,h2,?_,h4,h5⟩
   show KOk b k
   rcases e3 with rfl|rfl
   . exact kmake_k h3
   . exact kdrop_k h3
 . obtain⟨c,e2,_⟩:=shops_x s d
   rw[e,e2]
   exact⟨h1,h2,h3,h4,h5⟩
theorem do_q {s:C_} {d:O_} (he:Fs_ d=0) (hk:d.kind=2) (hz:(A2_ s d).2=0):(P_ s d).1=(A2_ s d).1/\(P_ s d).2.2=0:=by
 unfold P_
 have c:(!decide (Fs_ d=0))=false:=by rw[decide_eq_true he];rfl
 rw[c,cond_false,hk]
 unfold lt3 lt1 lt
 have c1:decide ((2:Int)=2)=true:=rfl
 rw[c1]
 simp only[cond_true]
 have c2:(!decide ((A2_ s d).2=0))=false:=by rw[decide_eq_true hz];rfl
 rw[c2]
 exact⟨rfl,rfl⟩
theorem do_sh {s:C_} {d:O_} (he:Fs_ d=0) (hk:d.kind=0\/d.kind=4) (hz:(Ax_ s d).2=0):(P_ s d).1=(Ax_ s d).1/\(P_ s d).2.2=0:=by
 unfold P_
 have c:(!decide (Fs_ d=0))=false:=by rw[decide_eq_true he];rfl
 rw[c,cond_false]
 unfold lt3 lt1 lt
 have n:∀ k:Int,k≠0->k≠4 -> decide (d.kind=k)=false:=λk h0 h4=>decide_eq_false (by rcases hk with e|e<;>rw[e]<;>omega)
 rw[n 2 (by decide) (by decide),n 3 (by decide) (by decide),n 6 (by decide) (by decide),n 7 (by decide) (by decide),n 8 (by decide) (by decide),n 9 (by decide) (by decide),n 10 (by decide) (by decide),n 11 (by decide) (by decide),n 12 (by decide) (by decide)]
 simp only[cond_false]
 have c2:(!decide ((Ax_ s d).2=0))=false:=by rw[decide_eq_true hz];rfl
 rw[c2]
 exact⟨rfl,rfl⟩
theorem do_queue {s:C_} {q:U_} (hc:Bh_ q=0) (hn:∀ r∈s.x.G_.rows,r.q.name≠q.name) (hl:s.x.G_.rows.length<8):(P_ s (Rt_ q)).1=⟨⟨s.x.book,⟨s.x.G_.next,s.x.G_.bytes,s.x.G_.rows++[⟨q,⟨[]⟩⟩],s.x.G_.rises⟩,s.x.notes,s.x.seen,s.x.spent⟩,s.M_,s.place⟩:=by
 have hm:=make_fwd hc hn hl
 have e:A2_ s (Rt_ q)=(⟨⟨s.x.book,⟨s.x.G_.next,s.x.G_.bytes,s.x.G_.rows++[⟨q,⟨[]⟩⟩],s.x.G_.rises⟩,s.x.notes,s.x.seen,s.x.spent⟩,s.M_,s.place⟩,0):=by
   unfold A2_
   have c1:decide ((Rt_ q).kind=2)=true:=rfl
   rw[c1,cond_true,lt,show (Rt_ q).queue=q from rfl,hm]
 rw[(do_q (dqueue_e hc) rfl (by rw[e])).1,e]
theorem do_shop {s:C_} {x:W_} (h:Jy_ x=0) (hx:x.sort=4->0<=T_ s.M_ x.to'/\0<=Ai_ s.M_ s.place (T_ s.M_ x.to')) (hn:∀ y∈s.x.book.Ba_,y.name≠x.name) (hl:s.x.book.Ba_.length<8):(P_ s (N3_ x)).1=⟨⟨⟨s.x.book.Ba_++[x],s.x.book.binds⟩,s.x.G_,s.x.notes,s.x.seen,s.x.spent⟩,s.M_,s.place⟩/\(P_ s (N3_ x)).2.2=0:=by
 have hm:=mk_fwd h hn hl
 have e:Ax_ s (N3_ x)=(⟨⟨⟨s.x.book.Ba_++[x],s.x.book.binds⟩,s.x.G_,s.x.notes,s.x.seen,s.x.spent⟩,s.M_,s.place⟩,0):=by
   unfold Ax_
   have c1:decide ((N3_ x).kind=0)=true:=rfl
   have c2:(N3_ x).A9_=x:=rfl
   rw[c1,cond_true,c2]
   unfold lt
   dsimp only
   by_cases q:x.sort=4
   . obtain⟨h1,h2⟩:=hx q
     rw[decide_eq_true q,cond_true,decide_eq_false (show ¬T_ s.M_ x.to'<0 by omega),cond_false,decide_eq_false (show ¬Ai_ s.M_ s.place (T_ s.M_ x.to')<0 by omega),cond_false]
     show (_,_)=_
     rw[hm]
   . rw[decide_eq_false q,cond_false]
     show (_,_)=_
     rw[hm]
 have hd:=do_sh (s:=s) (dshop_e h) (.inl rfl) (by rw[e])
 rw[e] at hd
 exact hd
theorem do_bind {s:C_} {y:Q_} (hb:BiB y) (hd:BdG s.M_ s.place (s.x.G_.rows.map (·.q)) s.x.book.Ba_ y) (hs:Et_ y.A9_=0) (hq:y.up=false->(Af_ s.x.G_ y.to').2=true) (hx:y∉s.x.book.binds) (hl:s.x.book.binds.length<32):(P_ s (Ll_ y)).1=⟨⟨⟨s.x.book.Ba_,s.x.book.binds++[y]⟩,s.x.G_,s.x.notes,s.x.seen,s.x.spent⟩,s.M_,s.place⟩/\(P_ s (Ll_ y)).2.2=0:=by
 obtain⟨⟨sh,g1,g2,g3⟩,g4,g5,_⟩:=hd
 have hm:=bd_fwd g1 g2 g4 g3 hx hl
 have e:Ax_ s (Ll_ y)=(⟨⟨⟨s.x.book.Ba_,s.x.book.binds++[y]⟩,s.x.G_,s.x.notes,s.x.seen,s.x.spent⟩,s.M_,s.place⟩,0):=by
   unfold Ax_
   have c1:decide ((Ll_ y).kind=0)=false:=rfl
   have c2:decide ((Ll_ y).kind=1)=false:=rfl
   have c3:decide ((Ll_ y).kind=5)=false:=rfl
   have c4:(Ll_ y).bind=y:=rfl
   rw[c1,cond_false,c2,cond_false,c3,cond_false,c4]
   unfold lt lt1
   dsimp only
   cases hu:y.up with
   |true=>
     obtain⟨h1,h2⟩:=g5 hu
     rw[decide_eq_false (show ¬T_ s.M_ y.to'<0 by omega),h2]
     simp only[Bool.true_and,Bool.not_true,Bool.false_and,cond_false]
     show (_,_)=_
     rw[hm]
   |false=>
     rw[hq hu]
     simp only[Bool.false_and,Bool.not_false,Bool.true_and,Bool.not_true,cond_false]
     show (_,_)=_
     rw[hm]
 have hd:=do_sh (s:=s) (dbind_e hb hs) (.inr rfl) (by rw[e])
 rw[e] at hd
 exact hd
theorem Uv_:∀ (l:List Fd_) (out:List U_),Cg_ l out=out++l.map (·.q)
 |[],out=>by simp[Cg_]
 |x::t,out=>by unfold Cg_;rw[Uv_ t];simp
theorem queues_eq (s:D_):A0_ s=s.rows.map (·.q):=by unfold A0_;rw[Uv_];rfl
theorem Qr_:∀ (l:List A5_),Gd_ l=true->∀ y∈l,y.name.length<=40
 |[],_,y,h=>by cases h
 |x::t,h,y,hy=>by
   unfold Gd_ at h
   cases e:decide (40<(x.name.length:Int)) with
   |true=>rw[e] at h;cases h
   |false=>
     rw[e] at h
     rcases List.mem_cons.1 hy with q|q
     . rw[q];have :=of_decide_eq_false e;omega
     . exact Qr_ t h y q
theorem may_names {p:E_} (h:Lh_ p=true):∀ y∈p.places,y.name.length<=300:=by
 unfold Lh_ at h
 rw[Bool.and_eq_true] at h
 have h1:=h.1
 unfold Kj_ at h1
 cases e:(decide (20<(p.places.length:Int)) || decide (40<(p.slots.length:Int)) || decide (10<(p.grants.length:Int))) with
 |true=>rw[e] at h1;cases h1
 |false=>
   rw[e] at h1
   intro y hy
   have :=Qr_ _ h1 y hy
   omega
theorem l05_may2 {p:E_} (h:Lh_ p=true):PoOk p/\0<p.places.length/\p.places.length<=16/\0<p.slots.length/\p.slots.length<=32/\p.grants.length<=8/\∀ y∈p.places,y.name.length<=300:=by
 obtain⟨a,b,c,d,e,f⟩:=l05_may h
 exact⟨a,b,c,d,e,f,may_names h⟩
theorem rb0 (r:RdR):∀ (t:List U_) (x:C_),(∀ q∈t,Bh_ q=0)->x.x.G_.rows.length+t.length<=8->((x.x.G_.rows.map (·.q)++t).map (·.name)).Nodup->∃ y:C_,Be_ r t x=Ah_ r r.Gt_ y/\y.M_=x.M_/\y.place=x.place/\y.x.book=x.x.book/\y.x.G_.rows.map (·.q)=x.x.G_.rows.map (·.q)++t
 |[],x,_,_,_=>⟨x,by rw[Be_],rfl,rfl,rfl,by simp⟩
 |q::t,x,hc,hl,hn=>by
   simp only[List.length_cons] at hl
   have hnq:∀ y∈x.x.G_.rows,y.q.name≠q.name:=by
     intro y hy e
     rw[List.map_append,List.nodup_append] at hn
     exact hn.2.2 y.q.name (List.mem_map.2 ⟨y.q,List.mem_map.2 ⟨y,hy,rfl⟩,rfl⟩) q.name (by simp) e
   have hd:=do_queue (s:=x) (hc q (by simp)) hnq (by omega)
   obtain⟨y,h1,h2,h3,h4,h5⟩:=rb0 r t (P_ x (Rt_ q)).1 (λz hz=>hc z (by simp[hz])) (by rw[hd];simp;omega) (by rw[hd];simpa using hn)
   refine⟨y,?_,?_,?_,?_,?_⟩
   . rw[Be_]
     exact h1
   . rw[h2,hd]
   . rw[h3,hd]
   . rw[h4,hd]
   . rw[h5,hd];simp
theorem rb1 (r:RdR) (rest:List O_):∀ (t:List W_) (x:C_),(∀ s∈t,Jy_ s=0/\(s.sort=4->0<=T_ x.M_ s.to'/\0<=Ai_ x.M_ x.place (T_ x.M_ s.to')))->x.x.book.Ba_.length+t.length<=8->((x.x.book.Ba_++t).map (·.name)).Nodup->∃ y:C_,Ah_ r (t.map N3_++rest) x=Ah_ r rest y/\y.M_=x.M_/\y.place=x.place/\y.x.book=⟨x.x.book.Ba_++t,x.x.book.binds⟩/\y.x.G_=x.x.G_
 |[],x,_,_,_=>⟨x,by simp,rfl,rfl,by simp,rfl⟩
 |s::t,x,hc,hl,hn=>by
   simp only[List.length_cons] at hl
   have hns:∀ y∈x.x.book.Ba_,y.name≠s.name:=by
     intro y hy e
     rw[List.map_append,List.nodup_append] at hn
     exact hn.2.2 y.name (List.mem_map.2 ⟨y,hy,rfl⟩) s.name (by simp) e
   obtain⟨c1,c2⟩:=hc s (by simp)
   obtain⟨d1,d2⟩:=do_shop (s:=x) c1 c2 hns (by omega)
   obtain⟨y,h1,h2,h3,h4,h5⟩:=rb1 r rest t (P_ x (N3_ s)).1 (λz hz=>by rw[d1];exact hc z (by simp[hz])) (by rw[d1];simp;omega) (by rw[d1];simpa using hn)
   refine⟨y,?_,?_,?_,?_,?_⟩
   . rw[List.map_cons,List.cons_append,Ah_.eq_2]
     unfold lt
     dsimp only
     have hs:H0_ (J_ x).book (J_ (P_ x (N3_ s)).1).book=false:=by
       rw[d1]
       unfold H0_ J_
       dsimp only
       rw[decide_eq_false (by intro e;have :=congrArg List.length e;simp at this),Bool.false_and]
     rw[hs,d2]
     exact h1
   . rw[h2,d1]
   . rw[h3,d1]
   . rw[h4,d1];simp
   . rw[h5,d1]
theorem rb2 (r:RdR):∀ (t:List Q_) (x:C_),(∀ y∈t,BiB y/\BdG x.M_ x.place (x.x.G_.rows.map (·.q)) x.x.book.Ba_ y/\Et_ y.A9_=0)->x.x.book.binds.length+t.length<=32->(x.x.book.binds++t).Nodup->∃ y:C_,Ah_ r (t.map Ll_) x=Ah_ r [] y/\y.x.book=⟨x.x.book.Ba_,x.x.book.binds++t⟩
 |[],x,_,_,_=>⟨x,by simp,by simp⟩
 |b::t,x,hc,hl,hn=>by
   simp only[List.length_cons] at hl
   have hns:b∉x.x.book.binds:=by
     intro hy
     rw[List.nodup_append] at hn
     exact hn.2.2 b hy b (by simp) rfl
   obtain⟨c1,c2,c3⟩:=hc b (by simp)
   have hq:b.up=false->(Af_ x.x.G_ b.to').2=true:=by
     intro hu
     obtain⟨q,q1,q2⟩:=c2.2.2.2 hu
     obtain⟨w,w1,w2⟩:=List.mem_map.1 q1
     have :¬I_ x.x.G_ b.to'<0:=λhlt=>at_neg hlt w w1 (by rw[w2];exact q2)
     unfold Af_
     rw[lt,decide_eq_false this]
     rfl
   obtain⟨d1,d2⟩:=do_bind (s:=x) c1 c2 c3 hq hns (by omega)
   obtain⟨y,h1,h2⟩:=rb2 r t (P_ x (Ll_ b)).1 (λz hz=>by rw[d1];exact hc z (by simp[hz])) (by rw[d1];simp;omega) (by rw[d1];simpa using hn)
   refine⟨y,?_,?_⟩
   . rw[List.map_cons,Ah_.eq_2]
     unfold lt
     dsimp only
     have hs:H0_ (J_ x).book (J_ (P_ x (Ll_ b)).1).book=false:=by
       rw[d1]
       unfold H0_ J_ L5_
       dsimp only
       rw[decide_eq_false (show ¬((x.x.book.binds.length:Int)=((x.x.book.binds++[b]).length:Int)) by simp;omega),Bool.not_false,cond_true,Bool.and_false]
     rw[hs,d2]
     exact h1
   . rw[h2,d1];simp
theorem shopOf_in {l:List W_} {n:Bs} {s:W_} (h:Ef_ l n=some s):s∈l/\s.name=n:=by
 unfold Ef_ at h
 exact⟨List.mem_of_find?_eq_some h,by simpa using List.find?_some h⟩
theorem shopE_nm {s:W_} (h:Jy_ s=0):Et_ s.name=0:=by
 have :=dshop_e h
 unfold Jy_ at h
 split at h
 . rename_i q;exact (q h).elim
 . rename_i q;simpa using q
theorem book_fwd {p:E_} {k:Int} {x:Aa_} (hr:∀ r∈x.G_.rows,Bh_ r.q=0) (hl:x.G_.rows.length<=8) (hn:(x.G_.rows.map (·.q.name)).Nodup) (hs:x.book.Ba_.length<=8) (hb:x.book.binds.length<=32) (hB:BkB x.book) (hG:BkG p k (x.G_.rows.map (·.q)) x.book):As_ (bkRd x) (Am_ p k) (A0_ x.G_)=(x.book,true,bkRd x):=by
 obtain⟨g1,g2,g3,g4⟩:=hG
 unfold As_
 rw[queues_eq]
 obtain⟨y,a1,a2,a3,a4,a5⟩:=rb0 (bkRd x) (x.G_.rows.map (·.q)) (Am_ p k) (λq hq=>by obtain⟨w,w1,rfl⟩:=List.mem_map.1 hq;exact hr w w1) (by simp[Am_,lt,Dy_,B1_];exact hl) (by simpa [Am_,lt,Dy_,B1_,Function.comp_def] using hn)
 have e1:(Am_ p k).M_=p:=rfl
 have e2:(Am_ p k).place=k:=rfl
 have e3:(Am_ p k).x.book=⟨[],[]⟩:=rfl
 have e4:(Am_ p k).x.G_.rows=[]:=rfl
 rw[e1] at a2
 rw[e2] at a3
 rw[e3] at a4
 rw[e4,List.map_nil,List.nil_append] at a5
 obtain⟨z,b1,b2,b3,b4,b5⟩:=rb1 (bkRd x) (x.book.binds.map Ll_) x.book.Ba_ y (λs h=>by rw[a2,a3];exact g3 s h) (by rw[a4];simp;exact hs) (by rw[a4];simpa using g1)
 rw[a2] at b2
 rw[a3] at b3
 rw[a4] at b4
 simp only[List.nil_append] at b4
 obtain ⟨w,c1,c2⟩:=rb2 (bkRd x) x.book.binds z (λb h=>by
   rw[b2,b3,b4,b5,a5]
   refine⟨hB.2 b h,g4 b h,?_⟩
   obtain⟨⟨s,s1,s2,s3⟩,_⟩:=g4 b h
   obtain⟨t1,t2⟩:=shopOf_in s1
   rw[<- t2]
   exact shopE_nm (g3 s t1).1) (by rw[b4];simp;exact hb) (by rw[b4];simpa using g2)
 rw[b4] at c2
 simp only[List.nil_append] at c2
 rw[a1]
 show Ah_ (bkRd x) (x.book.Ba_.map N3_++x.book.binds.map Ll_) y=_
 rw[b1,c1,Ah_.eq_1]
 unfold lt J_
 dsimp only
 rw[c2]
def DdF (d:O_):Prop:=U64 d.tick/\(0<=d.code/\d.code<=255)/\0<=d.Z_.hops/\0<=d.A9_.sort/\(∀ p∈d.bind.want,p.wf)/\Wf d.Z_/\U64 d.queue.most/\U64 d.queue.life/\U64 d.number/\0<=d.frm
theorem deed_f1 {d:O_} (h:PV.wfs (O_.pc d)):DdF d:=by
 have hw:=O_.pwf h
 obtain⟨h1,h2,h3,h4,h5,h6,h7,h8,h9,h10,h11,h12,h13⟩:=hw
 have ha:∀ p∈d.bind.want,p.wf:=λp hp=>Pair.pwf (h.2.2.2.2.2.2.2.2.2.2.2.2.2.1.2 p hp)
 have hb:∀ p∈d.Z_.head,p.wf:=λp hp=>Pair.pwf (h.2.2.2.2.2.2.2.2.2.2.2.2.2.2.2.2.2.2.2.2.2.2.2.2.1.2 p hp)
 simp only[Mail.wf,U_.wf,W_.wf] at h12 h4 h3
 exact⟨h2,h10,by omega,by omega,ha,⟨⟨⟨by omega,by omega⟩,⟨by omega,by omega⟩,by omega,by omega⟩,hb⟩,⟨by omega,by omega⟩,⟨by omega,by omega⟩,h11,by omega⟩
theorem deed_f {l:List O_} {k:Nat} {d:O_} (h:(PV.sl O_.pc l).wf) (hd:l[k]? = some d):DdF d:=deed_f1 (h.2 d (List.mem_of_getElem? hd))
structure Rt (p:E_) (k:Int) (s:C_):Prop where
 ok:StOk s
 b:StB s
 g:KG s.x.G_
 n:NtF s.x.notes
 bk:SbG s
 rk:Rk p k (max 0 (gt p.places k.toNat).bytes) s
theorem Rt.po {p:E_} {k:Int} {s:C_} (h:Rt p k s):s.M_=p:=h.rk.po
theorem Rt.pl {p:E_} {k:Int} {s:C_} (h:Rt p k s):s.place=k:=h.rk.pl
theorem a16_zero:∀ i,i<16->A16.get (⟨0,0,0,0,0,0,0,0,0,0,0,0,0,0,0,0⟩:A16_u64) i=0:=bw16 rfl rfl rfl rfl rfl rfl rfl rfl rfl rfl rfl rfl rfl rfl rfl rfl
theorem a8_zero:∀ i,i<8->A8.get (⟨(⟨0,0⟩:Av_),(⟨0,0⟩:Av_),(⟨0,0⟩:Av_),(⟨0,0⟩:Av_),(⟨0,0⟩:Av_),(⟨0,0⟩:Av_),(⟨0,0⟩:Av_),(⟨0,0⟩:Av_)⟩:A8_SpentR) i=⟨0,0⟩:=by
 intro i hi
 match i,hi with
 |0,_=>rfl
 |1,_=>rfl
 |2,_=>rfl
 |3,_=>rfl
 |4,_=>rfl
 |5,_=>rfl
 |6,_=>rfl
 |7,_=>rfl
theorem kok_new (p:E_) (k:Int):KOk (max 0 (gt p.places k.toNat).bytes) (Am_ p k).x.G_:=by
 refine⟨rfl,?_⟩
 show rz []+uz _ 16<=max 0 (gt p.places k.toNat).bytes
 have h2:uz (Am_ p k).x.G_.rises 16=0:=by
   unfold Am_ lt Dy_ B1_
   rfl
 rw[h2]
 show (0:Int)+0<=_
 omega
theorem rt_new {p:E_} {k:Int} (hp:PoOk p) (hk:0<=k/\k<p.places.length) (hb:∀ y∈p.places,U64 y.base):Rt p k (Am_ p k):=by
 have hn:U64 (Am_ p k).x.G_.next :=hb _ (H3_ (xs:=p.places) (k:=k.toNat) (by omega))
 obtain⟨h1,h2⟩:=newG hn
 exact ⟨Ly_ hp hk,newB p k,h1,h2,bkg_nil _ _ _,⟨rfl,rfl,kok_new p k,λi hi=>by
   rw[show (Am_ p k).x.seen=⟨0,0,0,0,0,0,0,0,0,0,0,0,0,0,0,0⟩ from rfl,a16_zero i hi]
   exact u64_0,λi hi=>by
   have :=a8_zero i hi
   rw[show (Am_ p k).x.spent=⟨⟨0,0⟩,⟨0,0⟩,⟨0,0⟩,⟨0,0⟩,⟨0,0⟩,⟨0,0⟩,⟨0,0⟩,⟨0,0⟩⟩ from rfl,this]
   exact u64_0⟩⟩
theorem rt_do {p:E_} {k:Int} {s:C_} {d:O_} (h:Rt p k s) (hd:DdOk d) (hf:DdF d):Rt p k (P_ s d).1:=by
 obtain⟨f1,f2,f3,f4,f5,f6,f7,f8,f9,f10⟩:=hf
 have hg:=doG f1 f2 h.ok f3 f6 f7 f8 h.g h.n
 exact⟨Ru_ h.ok hd f3,doB f2 h.ok f3 f4 f5 h.b,hg.1,hg.2,doBk f1 f2 h.ok f3 h.bk,doK f1 f2 f9 h.ok f3 h.rk⟩
theorem rt_ptf {p:E_} {k:Int} {s:C_} (h:Rt p k s):PtF p k s.x:=by
 refine⟨im_st h.ok h.b,kf_of h.ok.1.2.1 h.b.2.1 h.g,h.n,h.rk.k.1,?_,h.rk.se,λi hi=>⟨h.rk.sp i hi,h.ok.1.2.2.2 i hi⟩⟩
 have :=h.rk.k.2
 have h2:=h.rk.k.1
 unfold Dk_
 rw[V7_]
 omega
theorem rt_read {p:E_} {k:Int} {s:C_} (h:Rt p k s):E9_ (Ca_ (J_ s)) p k=(J_ s,0):=by
 have hbk:=h.bk
 unfold SbG at hbk
 rw[h.po,h.pl] at hbk
 exact iread_fwd (rt_ptf h) (book_fwd h.b.2.1 h.ok.1.2.1.1.1 h.ok.1.2.1.1.2.2 h.ok.1.1.1 h.ok.1.1.2.1 h.b.1 hbk)
theorem rt_with {p:E_} {k:Int} {s:C_} (h:Rt p k s):Dy_ p k (J_ s)=s:=by
 unfold Dy_ J_
 rw[<- h.po,<- h.pl]
theorem Wm_ {p:E_} (h:(PV.agg (E_.pc p)).wf):∀ y∈p.places,U64 y.base:=λy hy=>by
 have :=h.2.2.1.2 y hy
 exact this.2.2.2.2.1
theorem rt_back {p:E_} {k:Int} {s:C_} {x:Aa_} {t:Bs} {q:Aa_×Int} (h:Rt p k s) (e1:x=J_ s) (e2:t=Ca_ x) (e3:q=E9_ t p k):q=(x,0):=by
 subst e1;subst e2;subst e3
 exact rt_read h
theorem rt_goes {p:E_} {k:Int} {s b:C_} {x:Aa_} {q:Aa_×Int} (h:Rt p k s) (e1:x=J_ s) (hq:q=(x,0)) (e4:b=Dy_ p k q.1):Rt p k b:=by
 subst e1;subst hq;subst e4
 rw[rt_with h];exact h
theorem rt_im {p:E_} {k:Int} {s:C_} {x:Aa_} (h:Rt p k s) (e1:x=J_ s):ImOk x:=by
 subst e1
 exact im_st h.ok h.b
def Pe_:Bool:=
 lt (Am_ (⟨4,1,[(⟨[108,111,119],(⟨0,0⟩:C4_),500,1⟩:A5_)],[0],[]⟩:E_) 0) λr=>
 lt (J_ r) λr1=>
 lt (Ca_ r1) λr2=>
 lt (E9_ r2 (⟨4,1,[(⟨[108,111,119],(⟨0,0⟩:C4_),500,1⟩:A5_)],[0],[]⟩:E_) 0) λr3=>
 ((((Sv_)&&(decide ((r2.length:Int)=225)))&&(decide (r3.2=0)))&&(decide ((Jz_ r3.1.G_)=1)))
def La_ (a:K_) (b:K_):Bool:=
 (((decide (a.Z_=b.Z_))&&(a.Sx_==b.Sx_))&&(a.again==b.again))
def Ib_ (a:Ar_) (b:Ar_):Bool:=
 (((La_ a.item b.item)&&(decide (a.count=b.count)))&&(decide (a.lost=b.lost)))
def Hv_ (r:Ar_):Ar_:=
 r
def D6_:List O_->C_->C_->Bool
 |[],x1,x2=>lt (J_ x1) λr9=>
 lt (J_ x2) λr10=>
 (decide ((Ca_ r9)=(Ca_ r10)))
 |x3::t,x1,x2=>lt (P_ x1 x3) λr7=>
 lt (P_ x2 x3) λr8=>
 (bif (((!decide (r7.2.2=r8.2.2))||(!(Ib_ (Hv_ r7.2.1) (Hv_ r8.2.1))))||(!(L1_ (J_ r7.1) (J_ r8.1)))) then
 false
 else D6_ t r7.1 r8.1)
def D5_ (p:E_) (more:List O_) (r:Int):List O_->C_->Bool
 |[],x=>lt (J_ x) λr3=>
 lt (Ca_ r3) λr4=>
 lt (E9_ r4 p r) λr5=>
 (bif !decide (r5.2=0) then
 false
 else lt (Dy_ p r (r5.1)) λr6=>
 D6_ more x r6)
 |x4::t1,x=>lt (P_ x x4) λr2=>
 D5_ p more r t1 r2.1
def Iq_ (p:E_) (place:Int) (l:List O_) (more:List O_):Bool:=
 (bif !(Pe_) then
 false
 else (bif (((!(Lh_ p))||(!(Ip_ l)))||(!(Ip_ more))) then
 true
 else lt (X9_ p place) λr=>
 lt (Am_ p r) λr1=>
 D5_ p more r l r1))
inductive EqL {α:Type _} (F G:Nat->α):List Nat->Prop
 |nil:EqL F G []
 |cons {k:Nat} {l:List Nat}:F k=G k->EqL F G l->EqL F G (k::l)
theorem EqL.map {α:Type _} {F G:Nat->α}:∀ {l:List Nat},EqL F G l->l.map F=l.map G
 |[],_=>rfl
 |k::l, .cons h hl=>by rw[List.map_cons,List.map_cons,h,hl.map]
variable {P:Program} {n:Nat} {N:Rest} {H0:Env} {fF:Nat->PV} {fL:Nat->Blk}
theorem nZ {ι:Type _} {keep kL:List Nat} {G:Nat->PV} {GL:Nat->Blk} {lv:ι->List (Nat×PV)} {lL:ι->List (Nat×Blk)} {Φ:ι->Prop} {μ:ι->Nat} {m:Nat} {ks:List Kt} {Q:Qs} (x':ι) (hΦ:Φ x') (h3:AllF fF (lv x')) (h4:AllL fL (lL x'))
   (h1:EqL fF G keep:=by ((repeat' (first|exact EqL.nil|refine EqL.cons ?_ ?_))<;>(conv=>lhs;whnf)<;>(conv=>rhs;whnf)<;>exact rfl))
   (h2:EqL fL GL kL:=by ((repeat' (first|exact EqL.nil|refine EqL.cons ?_ ?_))<;>(conv=>lhs;whnf)<;>(conv=>rhs;whnf)<;>exact rfl))
   (hm:μ x'<m:=by decide):Hd P n N H0 Q (.ex .normal) (.lp (LJ (λx=>⟨mkF (lv x) keep G,mkL (lL x) kL GL⟩) Φ μ m)::ks) ⟨fF,fL⟩:=next x' h1.map h2.map h3 h4 hm hΦ
theorem nY {ι:Type _} {keep kL:List Nat} {G:Nat->PV} {GL:Nat->Blk} {lv:ι->List (Nat×PV)} {lL:ι->List (Nat×Blk)} {Φ:ι->Prop} {μ:ι->Nat} {m:Nat} {ks:List Kt} {Q:Qs} (x':ι) (h3:AllF fF (lv x')) (h4:AllL fL (lL x')) (hm:μ x'<m) (hΦ:Φ x')
   (h1:EqL fF G keep:=by ((repeat' (first|exact EqL.nil|refine EqL.cons ?_ ?_))<;>(conv=>lhs;whnf)<;>(conv=>rhs;whnf)<;>exact rfl))
   (h2:EqL fL GL kL:=by ((repeat' (first|exact EqL.nil|refine EqL.cons ?_ ?_))<;>(conv=>lhs;whnf)<;>(conv=>rhs;whnf)<;>exact rfl)):Hd P n N H0 Q (.ex .normal) (.lp (LJ (λx=>⟨mkF (lv x) keep G,mkL (lL x) kL GL⟩) Φ μ m)::ks) ⟨fF,fL⟩:=next x' h1.map h2.map h3 h4 hm hΦ
end Go.SW.V
set_option maxHeartbeats 6400000
namespace Go.Proofs
open Go.Shelf
open Go.RowKit in
open Go.Lib in
open Go.Lib in
open Go.RowKit Go.Sort Go.Lib in
open Go.RowKit Go.Sort Go.Lib in
open Go.RowKit Go.Sort Go.Lib
end Go.Proofs
namespace Go.SW
open Go.Proofs Go.RowKit
end Go.SW
namespace Go.Proofs
open Go.Shelf
def Tryz.lays229_ren:Go.Shelf.Ren:=⟨λ|229=>299|n=>n,λ|9=>9|40=>370|31=>86|152=>381|3=>3|0=>0|4=>4|21=>21|154=>383|n=>n,λ|n=>n⟩
theorem Tryz.lays229:Go.Proofs.Lays.n229 prog Tryz.lays229_ren:={
 mixed:=by kernel_rfl
 f229:=func299.trans (congrArg some (by kernel_rfl))
 t0:=underlying0
 a0:=isAgg0
 z0:=sizeOf0
 v0:=zeroValue0
 t3:=underlying3
 a3:=isAgg3
 z3:=sizeOf3
 v3:=zeroValue3
 t4:=underlying4
 a4:=isAgg4
 z4:=sizeOf4
 v4:=zeroValue4
 t9:=underlying9
 a9:=isAgg9
 z9:=sizeOf9
 v9:=zeroValue9
 t21:=underlying21
 a21:=isAgg21
 z21:=sizeOf21
 v21:=zeroValue21
 t31:=underlying86
 a31:=isAgg86
 z31:=sizeOf86
 v31:=zeroValue86
 t40:=underlying370
 a40:=isAgg370
 z40:=sizeOf370
 v40:=zeroValue370
 t152:=underlying381
 a152:=isAgg381
 z152:=sizeOf381
 v152:=zeroValue381
 t154:=underlying383
 a154:=isAgg383
 z154:=sizeOf383
 v154:=zeroValue383}
open Go.RowKit Go.Lib in
theorem Tryz.strings_FieldsFunc (g:Nat) (lb:Array Value) (eg:∀ args w,(callFunc g args).run prog w = .ok (.enter g args) w) (p:Nat->Bool) (s:ByteArray) (w:World) (hs:s.size<=4294967296) (hp:PredAt prog g lb encR p w) :
   Calls prog 299 #[.string s, .func (.func g) #[] lb] w λe w'=>∃ A,e = .returned (.slice (some ⟨A,0,none⟩) (Lib.goFieldsP p s).length (Lib.goFieldsP p s).length)/\w.heap.size<=A /\
     w'.ownsRow w.heap.size 9 1 (.slice (some ⟨A,0,none⟩) (Lib.goFieldsP p s).length (Lib.goFieldsP p s).length) (Lib.goFieldsP p s).length ((Lib.goFieldsP p s).map Value.string)/\Below w.heap.size w w':=Any.strings_FieldsFunc Tryz.lays229 g lb eg p s w hs hp (by kernel_rfl) (by kernel_rfl)
def Tryz.laysPu14_ren:Go.Shelf.Ren:=⟨λ|14=>327|16=>338|17=>339|19=>342|20=>343|21=>344|22=>345|23=>346|24=>347|25=>348|27=>71|26=>349|28=>144|29=>215|30=>254|31=>255|32=>256|33=>257|35=>280|34=>279|36=>281|37=>282|38=>283|39=>296|40=>297|n=>n,λ|9=>9|3=>3|22=>36|24=>222|25=>393|4=>4|34=>405|5=>5|36=>217|37=>216|0=>0|39=>407|21=>21|44=>411|47=>294|50=>415|48=>413|2=>2|52=>338|55=>340|59=>359|60=>95|20=>20|61=>360|65=>377|66=>378|67=>140|n=>n,λ|0=>6|1=>7|2=>0|3=>2|4=>3|n=>n⟩
theorem Tryz.laysPu14:Go.Proofs.LaysPu.n14 prog Tryz.laysPu14_ren:={
 mixed:=by kernel_rfl
 f14:=func327.trans (congrArg some (by kernel_rfl))
 f16:=func338.trans (congrArg some (by kernel_rfl))
 f17:=func339.trans (congrArg some (by kernel_rfl))
 f19:=func342.trans (congrArg some (by kernel_rfl))
 f20:=func343.trans (congrArg some (by kernel_rfl))
 f21:=func344.trans (congrArg some (by kernel_rfl))
 f22:=func345.trans (congrArg some (by kernel_rfl))
 f23:=func346.trans (congrArg some (by kernel_rfl))
 f24:=func347.trans (congrArg some (by kernel_rfl))
 f25:=func348.trans (congrArg some (by kernel_rfl))
 f26:=func349.trans (congrArg some (by kernel_rfl))
 f27:=func71.trans (congrArg some (by kernel_rfl))
 f28:=func144.trans (congrArg some (by kernel_rfl))
 f29:=func215.trans (congrArg some (by kernel_rfl))
 f30:=func254.trans (congrArg some (by kernel_rfl))
 f31:=func255.trans (congrArg some (by kernel_rfl))
 f32:=func256.trans (congrArg some (by kernel_rfl))
 f33:=func257.trans (congrArg some (by kernel_rfl))
 f34:=func279.trans (congrArg some (by kernel_rfl))
 f35:=func280.trans (congrArg some (by kernel_rfl))
 f36:=func281.trans (congrArg some (by kernel_rfl))
 f37:=func282.trans (congrArg some (by kernel_rfl))
 f38:=func283.trans (congrArg some (by kernel_rfl))
 f39:=func296.trans (congrArg some (by kernel_rfl))
 f40:=func297.trans (congrArg some (by kernel_rfl))
 t0:=underlying0
 a0:=isAgg0
 z0:=sizeOf0
 v0:=zeroValue0
 i0:=by kernel_rfl
 t2:=underlying2
 a2:=isAgg2
 z2:=sizeOf2
 v2:=zeroValue2
 i2:=by kernel_rfl
 t3:=underlying3
 a3:=isAgg3
 z3:=sizeOf3
 v3:=zeroValue3
 i3:=by kernel_rfl
 t4:=underlying4
 a4:=isAgg4
 z4:=sizeOf4
 v4:=zeroValue4
 i4:=by kernel_rfl
 t5:=underlying5
 a5:=isAgg5
 z5:=sizeOf5
 v5:=zeroValue5
 i5:=by kernel_rfl
 t9:=underlying9
 a9:=isAgg9
 z9:=sizeOf9
 v9:=zeroValue9
 i9:=by kernel_rfl
 t20:=underlying20
 a20:=isAgg20
 z20:=sizeOf20
 v20:=zeroValue20
 i20:=by kernel_rfl
 t21:=underlying21
 a21:=isAgg21
 z21:=sizeOf21
 v21:=zeroValue21
 i21:=by kernel_rfl
 t22:=underlying36
 a22:=isAgg36
 z22:=sizeOf36
 v22:=zeroValue36
 i22:=by kernel_rfl
 t24:=underlying222
 a24:=isAgg222
 z24:=sizeOf222
 v24:=zeroValue222
 i24:=by kernel_rfl
 t25:=underlying393
 a25:=isAgg393
 z25:=sizeOf393
 v25:=zeroValue393
 i25:=by kernel_rfl
 t34:=underlying405
 a34:=isAgg405
 z34:=sizeOf405
 v34:=zeroValue405
 i34:=by kernel_rfl
 c34:=by kernel_rfl
 t36:=underlying217
 a36:=isAgg217
 z36:=sizeOf217
 v36:=zeroValue217
 i36:=by kernel_rfl
 t37:=underlying216
 a37:=isAgg216
 z37:=sizeOf216
 v37:=zeroValue216
 i37:=by kernel_rfl
 t39:=underlying407
 a39:=isAgg407
 z39:=sizeOf407
 v39:=zeroValue407
 i39:=by kernel_rfl
 t44:=underlying411
 a44:=isAgg411
 z44:=sizeOf411
 v44:=zeroValue411
 i44:=by kernel_rfl
 t47:=underlying294
 a47:=isAgg294
 z47:=sizeOf294
 v47:=zeroValue294
 i47:=by kernel_rfl
 t48:=underlying413
 a48:=isAgg413
 z48:=sizeOf413
 v48:=zeroValue413
 i48:=by kernel_rfl
 t50:=underlying415
 a50:=isAgg415
 z50:=sizeOf415
 v50:=zeroValue415
 i50:=by kernel_rfl
 t52:=underlying338
 a52:=isAgg338
 z52:=sizeOf338
 v52:=zeroValue338
 i52:=by kernel_rfl
 t55:=underlying340
 a55:=isAgg340
 z55:=sizeOf340
 v55:=zeroValue340
 i55:=by kernel_rfl
 t59:=underlying359
 a59:=isAgg359
 z59:=sizeOf359
 v59:=zeroValue359
 i59:=by kernel_rfl
 t60:=underlying95
 a60:=isAgg95
 z60:=sizeOf95
 v60:=zeroValue95
 i60:=by kernel_rfl
 t61:=underlying360
 a61:=isAgg360
 z61:=sizeOf360
 t65:=underlying377
 a65:=isAgg377
 z65:=sizeOf377
 v65:=zeroValue377
 i65:=by kernel_rfl
 t66:=underlying378
 a66:=isAgg378
 z66:=sizeOf378
 v66:=zeroValue378
 i66:=by kernel_rfl
 t67:=underlying140
 a67:=isAgg140
 z67:=sizeOf140
 v67:=zeroValue140
 i67:=by kernel_rfl
 g0:=by kernel_rfl
 m0:=by kernel_rfl
 g1:=by kernel_rfl
 m1:=by kernel_rfl
 g2:=by kernel_rfl
 m2:=by kernel_rfl
 g3:=by kernel_rfl
 m3:=by kernel_rfl
 g4:=by kernel_rfl
 m4:=by kernel_rfl}
open Go.RowKit Go.Lib in
theorem Tryz.strconv_ParseUint_10_at64_ok (s:ByteArray) (hmax:s.size<=9223372036854775806) (u:Nat) (h:Lib.parseUintB 64 s.data.toList = .ok u) (w:World) :
   Calls prog 327 #[.string s, .int .i64 10, .int .i64 64] w λe w'=>e = .returned (.tuple #[.int .u64 u, .nilIface])/\(w'=w\/w'=Lib.bytesWorld w 5 s):=Any.strconv_ParseUint_10_at64_ok Tryz.laysPu14 s hmax u h w
open Go.RowKit Go.Lib in
theorem Tryz.isBlank (w:World):PredAt prog 300 #[] encR (λr=>decide ((r:Int)=32)) w:=λW r _=>by
 unfold FnGives
 go_enter func300,ntmps300
 go_wp2
 go_ret
 exact⟨rfl,0,rfl⟩
end Go.Proofs
namespace Go.SW
open Go.Proofs Go.RowKit
theorem strings_Flds (H:Hp) (s:Bs) (hs:s.length<=65536):Ph prog 299 #[str s, .func (.func 300) #[] #[]] H (λv H'=>∃ (a:Option Addr) (c:Nat),v = .slice a (flds s).length c/\SlH strE 1 H' (.slice a (flds s).length c) (flds s)):=by
 refine ph_rowB (T:=9) (flds_str s) (λw hw=>by have :=flds_piece s w hw;omega) λN L w hm=>?_
 have :=Tryz.strings_FieldsFunc 300 #[] (enters_of func300 (by kernel_rfl) rfl) _ ⟨s.toArray⟩ w (by simp[ByteArray.size];omega) (Tryz.isBlank w)
 refine this.mono λe w' ⟨A,h1,h2,h3,h4⟩=>⟨A,?_,h2,?_,h4⟩
 . rw[h1,List.length_map]
 . rw[List.length_map];exact h3
theorem strconv_PU (s:Bs) (hl:s.length<=19) (h0:0<s.length) (hd:Hk_ s=true) (w:World):Calls prog 327 #[str s, .int .i64 10, .int .i64 64] w λe w'=>e = .returned (.tuple #[.int .u64 (dec s:Int), .nilIface])/\Below w.heap.size w w':=by
 refine (Tryz.strconv_ParseUint_10_at64_ok ⟨s.toArray⟩ (by simp[ByteArray.size];omega) (dec s) (dec_ok hl h0 hd).1 w).mono λe w' ⟨he,hw⟩=>⟨he,?_⟩
 rcases hw with rfl|rfl
 . exact Below.refl _ _
 . exact Go.Joins.below_bytesWorld _ _ _ _ (Nat.le_refl _)
end Go.SW
namespace Go.Proofs
open Go.Shelf
def Tryz.lays146_ren:Go.Shelf.Ren:=⟨λ|146=>284|221=>298|268=>313|138=>314|143=>315|195=>323|197=>324|218=>325|219=>326|260=>333|217=>334|225=>335|224=>336|267=>337|266=>340|314=>341|n=>n,λ|9=>9|31=>86|3=>3|4=>4|0=>0|105=>390|21=>21|5=>5|46=>217|119=>399|139=>402|138=>401|146=>403|51=>95|n=>n,λ|1=>1|3=>4|4=>5|n=>n⟩
theorem Tryz.lays146:Go.Proofs.Lays.n146 prog Tryz.lays146_ren:={
 mixed:=by kernel_rfl
 f138:=func314.trans (congrArg some (by kernel_rfl))
 f143:=func315.trans (congrArg some (by kernel_rfl))
 f146:=func284.trans (congrArg some (by kernel_rfl))
 f195:=func323.trans (congrArg some (by kernel_rfl))
 f197:=func324.trans (congrArg some (by kernel_rfl))
 f217:=func334.trans (congrArg some (by kernel_rfl))
 f218:=func325.trans (congrArg some (by kernel_rfl))
 f219:=func326.trans (congrArg some (by kernel_rfl))
 f221:=func298.trans (congrArg some (by kernel_rfl))
 f224:=func336.trans (congrArg some (by kernel_rfl))
 f225:=func335.trans (congrArg some (by kernel_rfl))
 f260:=func333.trans (congrArg some (by kernel_rfl))
 f266:=func340.trans (congrArg some (by kernel_rfl))
 f267:=func337.trans (congrArg some (by kernel_rfl))
 f268:=func313.trans (congrArg some (by kernel_rfl))
 f314:=func341.trans (congrArg some (by kernel_rfl))
 t0:=underlying0
 a0:=isAgg0
 z0:=sizeOf0
 v0:=zeroValue0
 t3:=underlying3
 a3:=isAgg3
 z3:=sizeOf3
 v3:=zeroValue3
 t4:=underlying4
 a4:=isAgg4
 z4:=sizeOf4
 v4:=zeroValue4
 t5:=underlying5
 a5:=isAgg5
 z5:=sizeOf5
 v5:=zeroValue5
 t9:=underlying9
 a9:=isAgg9
 z9:=sizeOf9
 v9:=zeroValue9
 t21:=underlying21
 a21:=isAgg21
 z21:=sizeOf21
 v21:=zeroValue21
 t31:=underlying86
 a31:=isAgg86
 z31:=sizeOf86
 v31:=zeroValue86
 t46:=underlying217
 a46:=isAgg217
 z46:=sizeOf217
 v46:=zeroValue217
 t51:=underlying95
 a51:=isAgg95
 z51:=sizeOf95
 v51:=zeroValue95
 t105:=underlying390
 a105:=isAgg390
 z105:=sizeOf390
 v105:=zeroValue390
 t119:=underlying399
 a119:=isAgg399
 z119:=sizeOf399
 t138:=underlying401
 a138:=isAgg401
 z138:=sizeOf401
 v138:=zeroValue401
 t139:=underlying402
 a139:=isAgg402
 z139:=sizeOf402
 v139:=zeroValue402
 t146:=underlying403
 a146:=isAgg403
 z146:=sizeOf403
 v146:=zeroValue403
 g1:=by kernel_rfl
 g3:=by kernel_rfl
 g4:=by kernel_rfl}
open Go.RowKit Go.Lib in
theorem Tryz.strings_Split (s sep:ByteArray) (m:Int) (w:World) (hs:s.size<4294967281) (hm:w.cell? ⟨1,0,none⟩=some (.int .i64 m)) (h1:1<=sep.size) :
   Calls prog 284 #[.string s, .string sep] w λe w'=>
     e = .returned (.slice (some ⟨w.heap.size,0,none⟩) (Lib.countB s sep+1) (Lib.countB s sep+1))/\w'=w.alloc (.cells ((Lib.splitB sep 0 (Lib.countB s sep) s).map Value.string).toArray 9):=Any.strings_Split Tryz.lays146 (by kernel_rfl) s sep m w hs hm h1
end Go.Proofs
namespace Go.SW
open Go.Proofs
theorem strings_Split (H:Hp) (s p:Bs) (hp:p=[46]) (hML:GInt H 1) (hs:s.length<4294967281):Ph prog 284 #[str s,str p] H (λv H'=>∃ (a:Option Addr) (c:Nat),v = .slice a (dots s).length c/\SlH strE 1 H' (.slice a (dots s).length c) (dots s)):=by
 subst hp
 refine ph_strs (T:=9) (λw hw=>by have :=P3_ s w hw;omega) λN L w hm=>?_
 obtain⟨m,hc⟩:=hML.cell hm
 refine (Tryz.strings_Split ⟨s.toArray⟩ ⟨#[46]⟩ m w (by simpa [Kf_] using hs) hc (by decide)).mono λe w' ⟨he,hw⟩=>⟨?_,?_⟩
 . rw[he,U3_]
 . rw[hw,Ts_]
theorem strings_SplitL (H:Hp) (s p:Bs) (hp:p=[10]) (hML:GInt H 1) (hs:s.length<4294967281):Ph prog 284 #[str s,str p] H (λv H'=>∃ (a:Option Addr) (c:Nat),v = .slice a (cuts 10 s).length c/\SlH strE 1 H' (.slice a (cuts 10 s).length c) (cuts 10 s)):=by
 subst hp
 refine ph_strs (T:=9) (λw hw=>by have :=P2_ 10 s w hw;omega) λN L w hm=>?_
 obtain⟨m,hc⟩:=hML.cell hm
 refine (Tryz.strings_Split ⟨s.toArray⟩ ⟨#[10]⟩ m w (by simpa [Kf_] using hs) hc (by decide)).mono λe w' ⟨he,hw⟩=>⟨?_,?_⟩
 . rw[he,splitB_clen]
 . rw[hw,Tr_]
end Go.SW
