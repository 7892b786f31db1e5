/-
  A part of the proof of ReportLines: What functions answer, printed by program out of their walks: stairwellref03.Has, stairwellref03.Under, stairwellref05.Check, stairwelllaw23.At, stairwelllaw05.Light.
-/
import Derived.Test.YtdanlhjbbojfgaaGreatDoorReportLinesP3
import Derived.Test.YtdanlhjbbojfgaaGreatDoorReportLinesP2
import Derived.Shelf.LaysM
import Derived.Shelf.Strings.OnBuilder
import Derived.Shelf.Strconv.Itoa3
import Derived.Lib.AppendIntMem
import Derived.Lib.Walk
import Derived.WalkKit
import Derived.BigCall
import Derived.BigGuard
import Derived.Test.YtdanlhjbbojfgaaGreatDoorProg
import Derived.Shelf.Strings.FieldsFuncAny
import Derived.Shelf.Pu.ParseUintPublic10
import Derived.Lib.SmallJoins
import Derived.Shelf.Strings.Split
import Derived.KernelRfl
set_option linter.unusedVariables false
set_option linter.unusedSimpArgs false
set_option maxRecDepth 100000
set_option maxHeartbeats 4000000
namespace Go.SW.V
open Go.SW
def N5_ (a:LabelR) (i:Int):Bool:=
 (decide (((Int.fdiv a.set_ (2 ^ (min (i:Int).toNat (IntKind.bits .u32))))%2)=1))
def K4_ (a:LabelR) (b:LabelR):Nat->Nat->Bool
  |0,_=>default
  | f2+1,i=>(bif decide ((i:Int)<32) then
 (bif ((N5_ a (i:Int))&&(!(N5_ b (i:Int)))) then
 false
 else K4_ a b f2 (i+1))
 else true)
def O9_ (a:LabelR) (b:LabelR):Bool:=
 (bif decide (b.level<a.level) then
 false
 else K4_ a b (32-0+1) 0)
def Fw_ (y:PlaceR):List PlaceR->Lo Unit Int
  |[]=> .fin ()
  | x::t=>(bif ((decide ((x.name)=(y.name)))||(decide (x.label=y.label))) then
 .ret 9
 else Fw_ y t)
def Fx_ (y1:GrantR):List GrantR->Lo Unit Int
  |[]=> .fin ()
  | x1::t1=>(bif ((decide ((x1.frm)=(y1.frm)))&&(decide ((x1.to')=(y1.to')))) then
 .ret 9
 else Fx_ y1 t1)
def G8_ (i:Nat):List Int->Bool->Lo Unit Int
  | [],has=>(bif !has then
 .ret 15
 else .fin ())
  |x2::t2,has=>G8_ i t2 (has||(decide (x2=(i:Int))))
def K5_ (p:PolicyR):Nat->Nat->Int
  |0,_=>default
  | f2+1,i=>(bif decide ((i:Int)<(p.places.length:Int)) then
 (lp0 (G8_ i p.slots false) (
 K5_ p f2 (i+1)) (fun r=>r))
 else 0)
def Ez_ (p:PolicyR):List GrantR->Nat->Int
  |[],k3=>K5_ p (p.places.length-0+1) 0
  | x3::t3,k3=>(lp0 ((bif ((((decide ((x3.frm)<0))||(decide ((p.places.length:Int)<=(x3.frm))))||(decide ((x3.to')<0)))||(decide ((p.places.length:Int)<=(x3.to')))) then
 .ret 10
 else (bif (O9_ ((gt p.places ((x3.frm).toNat)).label) ((gt p.places ((x3.to').toNat)).label)) then
 .ret 11
 else (bif ((decide ((x3.budget)<0))||(decide (16<(x3.budget)))) then
 .ret 7
 else Fx_ x3 (p.grants.take k3))))) (
 Ez_ p t3 (k3+1)) (fun r=>r))
def Eh_ (p:PolicyR):List Int->Int
  | []=>(bif decide (8<(p.grants.length:Int)) then
 6
 else Ez_ p p.grants 0)
  | x4::t4=>(bif ((decide (x4<0))||(decide ((p.places.length:Int)<=x4))) then
 10
 else Eh_ p t4)
def Ey_ (p:PolicyR):List PlaceR->Nat->Int
  | [],k=>(bif decide ((p.slots.length:Int)=0) then
 15
 else (bif decide (32<(p.slots.length:Int)) then
 6
 else Eh_ p p.slots))
  | x5::t5,k=>(lp0 ((bif !decide ((Ee_ (x5.name))=0) then
 .ret (Ee_ (x5.name))
 else (bif ((((decide (15<(x5.label.level)))||(decide ((x5.bytes)<0)))||(decide (65536<(x5.bytes))))||(decide ((x5.base)=0))) then
 .ret 7
 else Fw_ x5 (p.places.take k)))) (
 Ey_ p t5 (k+1)) (fun r=>r))
def Mv_ (p:PolicyR):Int:=
 (bif ((((decide (p.work<1))||(decide (16<p.work)))||(decide (p.give<1)))||(decide (16<p.give))) then
 7
 else (bif decide ((p.places.length:Int)=0) then
 15
 else (bif decide (16<(p.places.length:Int)) then
 6
 else Ey_ p p.places 0)))
def Xr_ (p:PolicyR) (n:Int):Int:=
 (n%(p.places.length:Int))
def Fp_:List PlaceR->Bool
  |[]=>true
  | x::t=>(bif decide (40<((x.name).length:Int)) then
 false
 else Fp_ t)
def Ka_ (p:PolicyR):Bool:=
 (bif (((decide (20<(p.places.length:Int)))||(decide (40<(p.slots.length:Int))))||(decide (10<(p.grants.length:Int)))) then
 false
 else Fp_ p.places)
def Hs_:List GrantR->Int->Int->List PlaceR->List Int->List GrantR->PolicyR
  |[],work1,give_1,places1,slots1,grants1=>(⟨work1,give_1,places1,slots1,grants1⟩:PolicyR)
  |x::t,work1,give_1,places1,slots1,grants1=>Hs_ t work1 give_1 places1 slots1 (grants1++[x])
def Hr_ (p:PolicyR):List PlaceR->Int->Int->List PlaceR->List Int->List GrantR->PolicyR
  |[],work,give_,places,slots,grants=>Hs_ p.grants work give_ places (slots++p.slots) grants
  |x1::t1,work,give_,places,slots,grants=>Hr_ p t1 work give_ (places++[x1]) slots grants
def Gz_ (p:PolicyR):PolicyR:=
 Hr_ p p.places p.work p.give [] [] []
theorem l05_light {p:PolicyR} (h:Ka_ p=true):p.places.length<=100000/\p.slots.length<=100000/\p.grants.length<=100000:=by
  unfold Ka_ at h
  cases e:(decide (20<(p.places.length:Int)) || decide (40<(p.slots.length:Int)) || decide (10<(p.grants.length:Int))) with
  |true=>rw[e] at h;cases h
  |false=>
    simp only[Bool.or_eq_false_iff,decide_eq_false_iff_not] at e
    omega
def Lf_ (p:PolicyR):Bool:=
 ((Ka_ p)&&(decide ((Mv_ (Gz_ p))=0)))
theorem V9_:RiOk ⟨0,[]⟩:=⟨Nat.zero_le _,fun _ h=>by cases h⟩
theorem plen05:plen [119,111,114,107,32,52,10,103,105,118,101,32,49,10,108,97,98,101,108,32,108,111,119,32,48,32,53,49,50,32,49,10,115,108,111,116,32,108,111,119]=true:=by decide +kernel
theorem rput_ne {x:RiseR} {m:Mail} (h:x.total=0\/0<x.kept.length):(A6_ x m).1.total=0\/0<(A6_ x m).1.kept.length:=by
  unfold A6_ lt
  let Q:RiseR×Int->Prop:=fun r=>r.1.total=0\/0<r.1.kept.length
  refine bt (P:=Q) (fun _=>h) fun _=>?_
  refine bt (P:=Q) (fun _=>h) fun _=> .inr ?_
  simp only[List.flatten_cons,List.flatten_nil,List.append_nil,List.length_drop,List.length_append,List.length_cons,List.length_nil]
  omega
theorem knew_ok (b n:Int) (h:n<=1000000):StkOk (Ep_ b n):=by
  refine⟨⟨by simp[Ep_],by simp[Ep_],by simp[Ep_]⟩,fun i hi=>?_,?_,?_⟩
  · have :(Ep_ b n).rises.get i=⟨0,[]⟩:=by
      unfold Ep_ A16.get
      repeat' split
      all_goals rfl
    rw[this];exact V9_
  · show 0<=max 0 n
    omega
  · show max 0 n<=1000000
    omega
def poB (p:PolicyR):Bool:=decide (0<p.places.length) && decide (p.places.length<=16) && decide (0<p.slots.length) && decide (p.slots.length<=32) && decide (p.grants.length<=8)&&(p.grants.all fun g=>decide (0<=g.frm) && decide (g.frm<p.places.length) && decide (0<=g.to') && decide (g.to'<p.places.length) && decide (0<=g.budget) && decide (g.budget<=16))&&p.places.all fun x=>decide (0<=x.bytes) && decide (x.bytes<=65536)
theorem S5_ {p:PolicyR} (h:poB p=true):PoOk p:=by
  simp only[poB,List.all_eq_true,Bool.and_eq_true,decide_eq_true_eq] at h
  obtain⟨⟨⟨⟨⟨⟨h1,h2⟩,h3⟩,h4⟩,h5⟩,h6⟩,h7⟩:=h
  exact⟨h1,h2,h3,h4,h5,fun g hg=>by have :=h6 g hg;omega,h7⟩
def ddB (l:List DeedR):Bool:=l.all fun d=>decide (d.bind.key.length<=1000) && decide (d.bind.want.length<=1000) && decide (d.mail.head.length<=1000) && decide (d.mail.key.length<=1000) && decide (0<=d.mail.hops)
theorem ddB_ok {l:List DeedR} (h:ddB l=true):∀ d∈l,DdOk d/\0<=d.mail.hops:=fun d hd=>by
  simp only[ddB,List.all_eq_true,Bool.and_eq_true,decide_eq_true_eq] at h
  have :=h d hd
  exact⟨⟨this.1.1.1.1,this.1.1.1.2,this.1.1.2,this.1.2⟩,this.2⟩
theorem dd1 {d:DeedR} (h:ddB [d]=true):DdOk d:=(ddB_ok h d List.mem_cons_self).1
theorem s23_mem0 (l0:List DeedR):∀ {l:List DeedR} {d:DeedR},Dt_ l0 l=true->d∈l->Oy_ d=true
  |[],d,_,hd=>by simp at hd
  |x::l,d,h,hd=>by
    simp only[Dt_] at h
    cases e:Oy_ x with
    |false=>rw[e] at h;cases h
    |true=>
      rw[e] at h
      rcases List.mem_cons.1 hd with rfl|q
      · exact e
      · exact s23_mem0 l0 h q
theorem s23_len0 (l0:List DeedR):∀ {l:List DeedR},Dt_ l0 l=true->l0.length<=40
  |[],h=>by simp[Dt_] at h;omega
  |x::l,h=>by
    simp only[Dt_] at h
    cases e:Oy_ x with
    |false=>rw[e] at h;cases h
    |true=>rw[e] at h;exact s23_len0 l0 h
def DdA (l:List DeedR):Prop:=(∀ d∈l,DdOk d)/\l.length<=40
theorem l23_dd {l:List DeedR} (h:Kb_ l=true):DdA l:=⟨fun d hd=>by
  have e:=s23_mem0 _ h hd
  have h1:=Py_ d e
  simp only[Oy_,Bool.and_eq_true,decide_eq_true_eq] at e
  have h2:=Ss_ _ h1.2.2.2
  refine⟨by omega,by omega,by omega,by omega⟩,s23_len0 _ h⟩
theorem dd_mem {l:List DeedR} {k:Nat} {d:DeedR} (h:DdA l) (hd:l[k]? = some d):DdOk d:=h.1 d (List.mem_of_getElem? hd)
theorem at_r (p:PolicyR) (n:Int) (h:0<p.places.length):0<=Xr_ p n/\Xr_ p n<p.places.length:=
  ⟨Int.emod_nonneg _ (by omega),Int.emod_lt_of_pos _ (by omega)⟩
theorem to_eq1:∀ (l:List GrantR) (w g:Int) (p:List PlaceR) (s:List Int) (o:List GrantR),Hs_ l w g p s o=⟨w,g,p,s,o++l⟩
  |[],w,g,p,s,o=>by simp[Hs_]
  |x::l,w,g,p,s,o=>by simp[Hs_,to_eq1 l]
theorem to_eq0 (q:PolicyR):∀ (l:List PlaceR) (w g:Int) (p:List PlaceR) (s:List Int) (o:List GrantR),Hr_ q l w g p s o=⟨w,g,p++l,s++q.slots,o++q.grants⟩
  |[],w,g,p,s,o=>by simp[Hr_,to_eq1]
  |x::l,w,g,p,s,o=>by simp[Hr_,to_eq0 q l]
theorem to_eq (p:PolicyR):Gz_ p=p:=by simp[Gz_,to_eq0]
theorem to_sl (p:PolicyR):(Gz_ p).slots.length=p.slots.length:=by rw[to_eq]
theorem chk1 (y:PlaceR):∀ l:List PlaceR,LoP (fun _=>True) (fun r:Int=>r≠0) (Fw_ y l)
  |[]=>trivial
  |x::l=>by
    unfold Fw_
    exact bt (P:=LoP _ _) (fun _=>by show (9:Int)≠0;decide) fun _=>chk1 y l
theorem chk4 (y:GrantR):∀ l:List GrantR,LoP (fun _=>True) (fun r:Int=>r≠0) (Fx_ y l)
  |[]=>trivial
  |x::l=>by
    unfold Fx_
    exact bt (P:=LoP _ _) (fun _=>by show (9:Int)≠0;decide) fun _=>chk4 y l
theorem lp0Z {σ:Type} {I:Prop} {o:Lo Unit Int} {f:Int} (h:lp0 o f (fun r=>r)=0) (ho:LoP (fun _=>I) (fun r:Int=>r≠0) o):I/\f=0:=by
  cases o with
  |fin u=>exact⟨ho,h⟩
  |ret r=>exact absurd h ho
theorem LoP.imp {σ ρ:Type} {I J:σ->Prop} {R:ρ->Prop} {o:Lo σ ρ} (h:LoP I R o) (k:∀ s,I s->J s):LoP J R o:=by
  cases o with
  |fin s=>exact k s h
  |ret r=>exact h
theorem chk3 (p:PolicyR):∀ (l:List GrantR) (k:Nat),Ez_ p l k=0->∀ g∈l,0<=g.frm/\g.frm<p.places.length/\0<=g.to'/\g.to'<p.places.length/\0<=g.budget/\g.budget<=16
  |[],_,_,_,h=>by cases h
  |x::l,k,h,g,hg=>by
    unfold Ez_ at h
    obtain ⟨hx,h2⟩:=lp0Z (σ:=Unit) (I:=0<=x.frm/\x.frm<p.places.length/\0<=x.to'/\x.to'<p.places.length/\0<=x.budget/\x.budget<=16) h (by
      refine bt (P:=LoP _ _) (fun _=>by show (10:Int)≠0;decide) fun e=>?_
      refine bt (P:=LoP _ _) (fun _=>by show (11:Int)≠0;decide) fun _=>?_
      refine bt (P:=LoP _ _) (fun _=>by show (7:Int)≠0;decide) fun e2=>?_
      simp only[Bool.or_eq_false_iff,decide_eq_false_iff_not] at e e2
      exact (chk4 x _).imp fun _ _=>⟨by omega,by omega,by omega,by omega,by omega,by omega⟩)
    rcases List.mem_cons.1 hg with rfl|q
    · exact hx
    · exact chk3 p l (k+1) h2 g q
theorem chk2 (p:PolicyR):∀ l:List Int,Eh_ p l=0->p.grants.length<=8/\Ez_ p p.grants 0=0
  |[],h=>by
    unfold Eh_ at h
    cases e:decide (8<(p.grants.length:Int)) with
    |true=>rw[e] at h;cases h
    |false=>rw[e] at h;simp only[decide_eq_false_iff_not] at e;exact⟨by omega,h⟩
  |x::l,h=>by
    unfold Eh_ at h
    cases e:(decide (x<0) || decide ((p.places.length:Int)<=x)) with
    |true=>rw[e] at h;cases h
    |false=>rw[e] at h;exact chk2 p l h
theorem chk0 (p:PolicyR):∀ (l:List PlaceR) (k:Nat),Ey_ p l k=0->(∀ x∈l,0<=x.bytes/\x.bytes<=65536)/\0<p.slots.length/\p.slots.length<=32/\Eh_ p p.slots=0
  |[],k,h=>by
    unfold Ey_ at h
    cases e:decide ((p.slots.length:Int)=0) with
    |true=>rw[e] at h;cases h
    |false=>
      rw[e] at h
      cases e2:decide (32<(p.slots.length:Int)) with
      |true=>rw[e2] at h;cases h
      |false=>
        rw[e2] at h
        simp only[decide_eq_false_iff_not] at e e2
        exact⟨fun _ hx=>by (cases hx),by omega,by omega,h⟩
  |x::l,k,h=>by
    unfold Ey_ at h
    obtain ⟨hx,h2⟩:=lp0Z (σ:=Unit) (I:=0<=x.bytes/\x.bytes<=65536) h (by
      refine bt (P:=LoP _ _) (fun e=>?_) fun _=>?_
      · show Ee_ x.name≠0
        simpa using e
      refine bt (P:=LoP _ _) (fun _=>by show (7:Int)≠0;decide) fun e=>?_
      simp only[Bool.or_eq_false_iff,decide_eq_false_iff_not] at e
      exact (chk1 x _).imp fun _ _=>⟨by omega,by omega⟩)
    obtain⟨h3,h4⟩:=chk0 p l (k+1) h2
    exact⟨fun y hy=>by rcases List.mem_cons.1 hy with rfl|q;exact hx;exact h3 y q,h4⟩
theorem l05_ok {p:PolicyR} (h:Lf_ p=true):PoOk p:=by
  simp only[Lf_,Bool.and_eq_true,decide_eq_true_eq,to_eq] at h
  have h1:=h.2
  unfold Mv_ at h1
  cases e0:(decide (p.work<1) || decide (16<p.work) || decide (p.give<1) || decide (16<p.give)) with
  |true=>rw[e0] at h1;cases h1
  |false=>
    rw[e0] at h1
    cases e1:decide ((p.places.length:Int)=0) with
    |true=>rw[e1] at h1;cases h1
    |false=>
      rw[e1] at h1
      cases e2:decide (16<(p.places.length:Int)) with
      |true=>rw[e2] at h1;cases h1
      |false=>
        rw[e2] at h1
        simp only[decide_eq_false_iff_not] at e1 e2
        obtain⟨a1,a2,a3,a4⟩:=chk0 p p.places 0 h1
        obtain⟨b1,b2⟩:=chk2 p p.slots a4
        exact⟨by omega,by omega,a2,a3,b1,chk3 p p.grants 0 b2,a1⟩
theorem l05_may {p:PolicyR} (h:Lf_ p=true):PoOk p/\0<p.places.length/\p.places.length<=16/\0<p.slots.length/\p.slots.length<=32/\p.grants.length<=8:=by
  have q:=l05_ok h
  obtain⟨h1,h2,h3,h4,h5,_⟩:=id q
  exact⟨q,h1,h2,h3,h4,h5⟩
theorem l23_ddl {l:List DeedR} (h:Kb_ l=true):DdA l/\l.length<=40:=⟨l23_dd h,(l23_dd h).2⟩
variable {P:Program} {n:Nat} {N:Rest} {H0:Env} {all rest:List Oper} {Q:Qs} {ks:List Kt} {fF:Nat->PV} {fL:Nat->Blk} {T ty d:Nat} {pos:String} {af:Array Edge} {x y z:Operand} {K:St->Prop}
noncomputable def allH (H:Hp) (L:Ls):Hp:=fun b=>open Classical in if h:∃ o i,L i=some (b,o) then some h.choose else H b
theorem allH_own {N:Rest} {H:Hp} {L:Ls} {w:World} (hm:Mem N H L w) {i b:Nat} {o:Obj} (h:L i=some (b,o)):allH H L b=some o:=by
  have he:∃ o i,L i=some (b,o):=⟨o,i,h⟩
  unfold allH
  rw[dif_pos he]
  obtain⟨j,hj⟩:=he.choose_spec
  have :=hm.ll i j b o _ h hj
  subst this
  rw[h] at hj
  cases hj
  simp
theorem allH_le {N:Rest} {H:Hp} {L:Ls} {w:World} (hm:Mem N H L w):HLe H (allH H L):=fun b o h=>by
  unfold allH
  split
  · rename_i he
    obtain⟨o',i,hi⟩:=he
    have :=(hm.nl i b o' hi).2
    rw[h] at this;cases this
  · exact h
theorem mem_lend {N:Rest} {H:Hp} {L:Ls} {w:World} (hm:Mem N H L w):Mem N (allH H L) (fun _=>none) w:=by
  refine⟨hm.os,hm.tape,hm.output,hm.n,fun b o h=>?_,(fun _ _ _ h=>by cases h),fun b o h=>?_,(fun _ _ _ h=>by cases h),(fun _ _ _ _ _ h=>by cases h)⟩
  · unfold allH at h
    split at h
    · rename_i he
      cases h
      obtain⟨j,hj⟩:=he.choose_spec
      exact hm.l _ _ _ hj
    · exact hm.h b o h
  · unfold allH
    split
    · rename_i he
      obtain⟨o',i,hi⟩:=he
      have :=(hm.nl i b o' hi).1
      rw[h] at this;cases this
    · exact hm.nh b o h
theorem mem_lent {N:Rest} {H H':Hp} {L:Ls} {w w':World} (hm:Mem N H L w) (hl:HLe (allH H L) H') (hm':Mem N H' (fun _=>none) w'):Mem N H L w':=
  ⟨hm'.os,hm'.tape,hm'.output,hm'.n,fun b o h=>hm'.h b o (hl b o (allH_le hm b o h)),fun i b o h=>hm'.h b o (hl b o (allH_own hm h)),hm.nh,hm.nl,hm.ll⟩
inductive LentL (sL:Nat->Blk):List PV->List PV->Prop
  |nil:LentL sL [] []
  |same (p:PV) {ps qs:List PV} (h:LentL sL ps qs):LentL sL (p::ps) (p::qs)
  |lend (j:Nat) {α:Type} {u:Value} {k e:Nat} {enc:α->List PV} {xs:List α} {ps qs:List PV} (hj:sL j = .arr u k e enc xs) (h:LentL sL ps qs):LentL sL (.usl u::ps) (.sl enc xs::qs)
  |agg {ps qs rs ss:List PV} (h1:LentL sL ps qs) (h:LentL sL rs ss):LentL sL (.agg ps::rs) (.agg qs::ss)
theorem LentL.sims {sL:Nat->Blk} {H H':Hp} {L:Ls} (hl:HLe H H') (ho:∀ i b o,L i=some (b,o)->H' b=some o) (hb:∀ i,SimB sL H (sL i) (L i)) {ps qs:List PV} (h:LentL sL ps qs):∀ {vs:List Value},Sims H ps vs->Sims H' qs vs:=by
  induction h with
  |nil=>intro vs hs;cases hs.inv_nil;exact Sims.nil
  |same p _ ih=>
    intro vs hs
    obtain⟨v,us,rfl,h1,h2⟩:=hs.inv_cons
    exact (ih h2).cons (h1.mono hl)
  |lend j hj _ ih=>
    intro vs hs
    obtain⟨v,us,rfl,h1,h2⟩:=hs.inv_cons
    have e:=h1.inv_usl.1
    subst e
    have hi:=hb j
    rw[hj] at hi
    obtain⟨cs,h3,h4,h5⟩:=hi
    exact (ih h2).cons (Sim.of_slh (slh_ownE Ji_ h3 (h4.mono M0_ hl) fun b o q=>ho j b o q) h5)
  |agg _ _ ih1 ih=>
    intro vs hs
    obtain⟨v,us,rfl,h1,h2⟩:=hs.inv_cons
    obtain⟨zs,rfl,h3⟩:=h1.inv_agg
    exact (ih h2).cons (Sim.toAgg (ih1 h3))
theorem Wx_ {f:FuncId} {args args':List PV} {res:PV} {as0:Array Operand} {ats:Array TypeId} (h:Fn P H0.g f args' res) (hf:res.flat=true) (ha:argsP fF x as0.toList=some (f,args)) (hl:LentL fL args args') (hd:Nat.blt d n=true)
    (k:res.wf->K ⟨updp fF d res,fL⟩):E1 P n N H0 all ⟨some d, .call ⟨.value x,as0,ats⟩,ty,pos,af,none⟩ none ⟨fF,fL⟩ K:=by
  intro F H L hab a w hA hm
  obtain⟨vs,h1,h2⟩:=If_ (ats:=ats) hab.f ha h.cb
  have hle:=allH_le hm
  have hs:=hl.sims hle (fun i b o q=>allH_own hm q) hab.l h1
  rw[if_pos (by simp[Region.wanted])]
  unfold Oper.wp
  rw[hA.eval,h2]
  refine (h.run N (allH H L) _ w vs (H0.g.mono _ _ hle hab.g) hs (mem_lend hm)).mono fun e' w' ⟨v,H',he,hv,hl',hm'⟩=>?_
  subst he
  exact⟨_,H,L,hA.put (by simpa using hd) v,mem_lent hm hl' hm', .refl H,fun _ _=>rfl,_,hab.put d (Sim.simT (Sim.flat_any hf hv) h.no),k hv.wf⟩
end Go.SW.V
namespace Go.SW.V
open Go.SW
variable {P:Program} {N:Rest} {H0:Env} {s:St} {T T' ty:TypeId} {x:Operand}
theorem qnilN {q:Array (String×TypeId)} (hx:evP s.F x = .val .nilIface) (hT:P.underlying T=some (.interface q)):Qy P N H0 s (.binOp .neq T x (.const .nilIface) T') ty (.bool false):=fun F H L ha=>by
  have h1:=Ci_ ha.f x
  unfold Ok1 at h1
  rw[hx] at h1
  have h2:=h1.sim.inv_val
  have h:∀ d w,(Op.equalIn (d+1) T .nilIface .nilIface).run P w = .ok true w:=fun d w=>by simp[Op.equalIn,run_underlying hT]
  exact⟨_,Sim.bool,fun _ _ _=>E6_ (b:= .nilIface) h2 rfl (fun w=>by simp[eqGuard]) fun w=>by simp[binOp,Lz_ (h · w)]⟩
theorem inv_fn0 {H:Hp} {f:FuncId} {v:Value} (h:Sim H (.fn f [] []) v):v = .func (.func f) #[] #[]:=by
  obtain⟨vs,us,rfl,h1,h2⟩:=h.inv_fn
  cases h1.inv_nil;cases h2.inv_nil
  rfl
end Go.SW.V
namespace Go.SW.V
open Go.SW
def Jh_ (s:Bs):(List Bs):=
 (flds s)
def Ic_ (n:Int) (least:Int) (most:Int):Int:=
 (bif decide (n<least) then
 15
 else (bif decide (most<n) then
 6
 else 0))
def Jz_ (y:PlaceR) (x1:PlaceR):Bool:=
 ((decide (y.name=x1.name))||(decide (y.label=x1.label)))
def Jy_ (y:GrantR) (x1:GrantR):Bool:=
 ((decide (y.frm=x1.frm))&&(decide (y.to'=x1.to')))
def Mi_ (s:List Int) (v:Int):Bool:=
 lt (idxP (fun y=>decide (v=y)) s) fun r=>
 (decide (0<=r))
def J7_:List Int->Int
  |[]=>0
  | x::t=>(bif !decide (x=0) then
 x
 else J7_ t)
def Wn_ (vals:List Int):Int:=
 J7_ vals
def Ii_ (a:LabelR):Bool:=
 (decide (a.level<=15))
def Cu_ (s:Bs) (most:Int):Nat->Nat->Int->Int×Int
  |0,_,_=>default
  | f2+1,k1,n1=>(bif decide ((k1:Int)<(s.length:Int)) then
 (bif ((decide (((s.getD k1 0).toNat:Int)<48))||(decide (57<((s.getD k1 0).toNat:Int)))) then
 ((k1:Int),n1)
 else (bif decide (n1<=most) then
 Cu_ s most f2 (k1+1) ((10*n1)+(IntKind.wrap .u8 (((s.getD k1 0).toNat:Int)-48)))
 else Cu_ s most f2 (k1+1) n1))
 else ((k1:Int),n1))
def C0_ (s:Bs) (most:Int):Int×Bs×Int:=
 (lt2 (Cu_ s most (s.length-0+1) 0 0) (fun k n=>
 (bif ((decide (k=0))&&(decide ((s.length:Int)=0))) then
 (0,[],3)
 else (lt1 ((bif decide (k=0) then
 (decide (k=0))
 else ((decide (1<k))&&(decide (((s.getD 0 0).toNat:Int)=48))))) (fun v=>
 (bif v then
 (0,[],4)
 else (bif decide (most<n) then
 (0,[],7)
 else (n,(s.drop (k).toNat),0))))))))
theorem plen_w {s l:Bs} {r:List Bs} (h:plen s=true) (hr:Jh_ l=r) (hz:l.length<=65536/\(flds l).length<=65536/\∀ w∈flds l,0<w.length/\w.length<=19):∀ w∈r,0<w.length/\w.length<=19:=by
  subst hr;exact hz.2.2
theorem there_in {p:PolicyR} {i:Int} (h:Am_ p i=true):0<=i/\i<p.places.length:=by
  simp only[Am_,Cn_,Bool.and_eq_true,decide_eq_true_eq] at h
  omega
theorem wrap8_r (z:Int):0<=IntKind.wrap .u8 z/\IntKind.wrap .u8 z<=255:=Ju_ .u8 z
theorem lnum_l (s:Bs) (most:Int):∀ (f k:Nat) (n:Int),0<=n->0<=(Cu_ s most f k n).2
  |0,_,_,_=>by simp[Cu_,default]
  |f+1,k,n,hn=>by
    unfold Cu_
    let Q:Int×Int->Prop:=fun r=>0<=r.2
    refine bt (P:=Q) (fun _=>?_) fun _=>hn
    refine bt (P:=Q) (fun _=>hn) fun _=>?_
    refine bt (P:=Q) (fun _=>lnum_l s most f _ _ ?_) fun _=>lnum_l s most f _ _ hn
    have :=(wrap8_r (((s.getD k 0).toNat:Int)-48)).1
    omega
theorem lnum_r (s:Bs) (most:Int) (hm:0<=most/\most<=1000):0<=(C0_ s most).1/\(C0_ s most).1<=1000/\(C0_ s most).2.1.length<=s.length:=by
  unfold C0_
  have h:=lnum_l s most (s.length-0+1) 0 0 (Int.le_refl _)
  generalize Cu_ s most (s.length-0+1) 0 0=q at h ⊢
  obtain⟨k,n⟩:=q
  let Q:Int×Bs×Int->Prop:=fun r=>0<=r.1/\r.1<=1000/\r.2.1.length<=s.length
  have hno:∀ e:Int,Q (0,[],e):=fun e=>⟨Int.le_refl _,by show (0:Int)<=1000;decide,Nat.zero_le _⟩
  show Q (bif _ then _ else _)
  refine bt (P:=Q) (fun _=>hno _) fun _=>?_
  refine lt1E (P:=Q) (fun _=>True) trivial fun v _=>?_
  refine bt (P:=Q) (fun _=>hno _) fun _=>?_
  refine bt (P:=Q) (fun _=>hno _) fun e=>?_
  simp only[decide_eq_false_iff_not] at e
  exact⟨h,by show n<=1000;omega,by show (s.drop _).length<=_;rw[List.length_drop];omega⟩
def Jg_ (x:PlaceR) (ahead:List PlaceR):Int:=
 (bif !decide ((Ee_ x.name)=0) then
 (Ee_ x.name)
 else (lt1 ((bif !(Ii_ x.label) then
 (!(Ii_ x.label))
 else (bif !(Cn_ x.bytes 0 65536) then
 (!(Cn_ x.bytes 0 65536))
 else (decide (x.base=0))))) (fun v=>
 (bif v then
 7
 else (bif decide (0<=idxP (fun z_28:PlaceR=>(Jz_ z_28 x)) ahead) then
 9
 else 0)))))
def Fb_ (p:PolicyR) (x:GrantR) (ahead:List GrantR):Int:=
 (bif !(Am_ p x.frm) then
 10
 else (bif !(Am_ p x.to') then
 10
 else (bif (Gc_ ((gt p.places ((x.frm).toNat)).label) ((gt p.places ((x.to').toNat)).label)) then
 11
 else (bif !(Cn_ x.budget 0 16) then
 7
 else (bif decide (0<=idxP (fun z_32:GrantR=>(Jy_ z_32 x)) ahead) then
 9
 else 0)))))
def Ex_ (p:PolicyR):Nat->Int->Nat->Int
  |0,_,_=>default
  | f2+1,e_1,i=>(bif ((decide (e_1=0))&&(decide ((i:Int)<(p.places.length:Int)))) then
 Ex_ p f2 (Jg_ (gt p.places i) (p.places.take i)) (i+1)
 else e_1)
def Dr_ (p:PolicyR):Int:=
 lt (Ic_ (p.places.length:Int) 1 16) fun r=>
 Ex_ p (p.places.length+1-0+1) r 0
def D0_ (p:PolicyR):Nat->Int->Nat->Int
  |0,_,_=>default
  | f2+1,e_1,i=>(bif ((decide (e_1=0))&&(decide ((i:Int)<(p.slots.length:Int)))) then
 (bif !(Am_ p (gt p.slots i)) then
 D0_ p f2 10 (i+1)
 else D0_ p f2 e_1 (i+1))
 else e_1)
def D3_ (p:PolicyR):Int:=
 lt (Ic_ (p.slots.length:Int) 1 32) fun r=>
 D0_ p (p.slots.length+1-0+1) r 0
def Ew_ (p:PolicyR):Nat->Int->Nat->Int
  |0,_,_=>default
  | f2+1,e_1,i=>(bif ((decide (e_1=0))&&(decide ((i:Int)<(p.grants.length:Int)))) then
 Ew_ p f2 (Fb_ p (gt p.grants i) (p.grants.take i)) (i+1)
 else e_1)
def Dq_ (p:PolicyR):Int:=
 lt (Ic_ (p.grants.length:Int) 0 8) fun r=>
 Ew_ p (p.grants.length+1-0+1) r 0
def Ck_ (p:PolicyR):List PlaceR->Nat->Int
  |[],k=>0
  | x::t,k=>(bif !(Mi_ p.slots (k:Int)) then
 15
 else Ck_ p t (k+1))
def Gd_ (p:PolicyR):Int:=
 (bif ((!(Cn_ p.work 1 16))||(!(Cn_ p.give 1 16))) then
 7
 else (bif !decide ((Wn_ [(Dr_ p),(D3_ p),(Dq_ p)])=0) then
 (Wn_ [(Dr_ p),(D3_ p),(Dq_ p)])
 else Ck_ p p.places 0))
def Ej_ (s:Bs) (most:Int):List UInt8->Int×Int
  | []=>(bif decide (most<(dec s:Int)) then
 (0,7)
 else ((dec s:Int),0))
  | x::t=>(bif ((decide ((x.toNat:Int)<48))||(decide (57<(x.toNat:Int)))) then
 (0,4)
 else Ej_ s most t)
def Hi_ (s:Bs) (most:Int):Int×Int:=
 (bif ((decide (s=[]))||((decide (1<(s.length:Int)))&&(decide (((s.getD 0 0).toNat:Int)=48)))) then
 (0,4)
 else Ej_ s most s)
def Ef_ (s:Bs):Int×Int:=
 lt (Hi_ s 1048576) fun r=>
 ((IntKind.wrap .i64 r.1),r.2)
def Ag_ (p:PolicyR) (s:Bs):Int×Int:=
 lt (Br_ p s) fun r=>
 (bif decide (0<=r) then
 (r,0)
 else (0,10))
def H1_:Nat->Bs->Int->LabelR->LabelR×Int
  |0,_,_,_=>default
  | f2+1,s1,last,x=>(bif decide (0<(s1.length:Int)) then
 (bif !decide (((s1.getD 0 0).toNat:Int)=58) then
 ((⟨0,0⟩:LabelR),4)
 else lt (C0_ (s1.drop 1) 31) fun r1=>
 (bif !decide (r1.2.2=0) then
 ((⟨0,0⟩:LabelR),r1.2.2)
 else (bif decide (r1.1<=last) then
 ((⟨0,0⟩:LabelR),4)
 else H1_ f2 r1.2.1 r1.1 (⟨x.level,(IntKind.wrap .u32 ((BitVec.ofInt (IntKind.bits .u32) x.set_ |||BitVec.ofInt (IntKind.bits .u32) (IntKind.wrap .u32 (1*2 ^ (min (r1.1:Int).toNat (IntKind.bits .u32))))).toNat))⟩:LabelR))))
 else (x,0))
def Fq_ (s:Bs):LabelR×Int:=
 lt (C0_ s 15) fun r=>
 (bif !decide (r.2.2=0) then
 ((⟨0,0⟩:LabelR),r.2.2)
 else H1_ (r.2.1.length+1) r.2.1 (-1) (⟨(IntKind.wrap .u8 r.1),0⟩:LabelR))
def Ak_:List Bs->Nat->Int->Int->List PlaceR->List Int->List GrantR->PolicyR×Int×Int
  |[],k,work,give_,places,slots,grants=>lt (Gd_ (⟨work,give_,places,slots,grants⟩:PolicyR)) fun r16=>
 (bif !decide (r16=0) then
 ((⟨0,0,[],[],[]⟩:PolicyR),0,r16)
 else ((⟨work,give_,places,slots,grants⟩:PolicyR),0,0))
  |x::t,k,work,give_,places,slots,grants=>lt (Jh_ x) fun r=>
 (bif ((decide ((r.length:Int)=0))||(decide ((((gt r 0).getD 0 0).toNat:Int)=35))) then
 Ak_ t (k+1) work give_ places slots grants
 else (bif decide ((gt r 0)=[108,97,98,101,108]) then
 (bif !decide ((r.length:Int)=5) then
 ((⟨0,0,[],[],[]⟩:PolicyR),((k:Int)+1),4)
 else (bif decide ((gt r 0)=[119,111,114,107]) then
 lt (Ef_ (gt r 1)) fun r1=>
 (bif !decide (r1.2=0) then
 ((⟨0,0,[],[],[]⟩:PolicyR),((k:Int)+1),r1.2)
 else Ak_ t (k+1) r1.1 give_ places slots grants)
 else (bif decide ((gt r 0)=[103,105,118,101]) then
 lt (Ef_ (gt r 1)) fun r2=>
 (bif !decide (r2.2=0) then
 ((⟨0,0,[],[],[]⟩:PolicyR),((k:Int)+1),r2.2)
 else Ak_ t (k+1) work r2.1 places slots grants)
 else (bif decide ((gt r 0)=[115,108,111,116]) then
 lt (Ag_ (⟨work,give_,places,slots,grants⟩:PolicyR) (gt r 1)) fun r3=>
 (bif !decide (r3.2=0) then
 ((⟨0,0,[],[],[]⟩:PolicyR),((k:Int)+1),r3.2)
 else Ak_ t (k+1) work give_ places (slots++[r3.1]) grants)
 else lt (Fq_ (gt r 2)) fun r4=>
 (bif !decide (r4.2=0) then
 ((⟨0,0,[],[],[]⟩:PolicyR),((k:Int)+1),r4.2)
 else lt (Ef_ (gt r 3)) fun r5=>
 (bif !decide (r5.2=0) then
 ((⟨0,0,[],[],[]⟩:PolicyR),((k:Int)+1),r5.2)
 else lt (Hi_ (gt r 4) 18446744073709551615) fun r6=>
 (bif !decide (r6.2=0) then
 ((⟨0,0,[],[],[]⟩:PolicyR),((k:Int)+1),r6.2)
 else Ak_ t (k+1) work give_ (places++[(⟨(gt r 1),r4.1,r5.1,r6.1⟩:PlaceR)]) slots grants)))))))
 else (bif decide ((gt r 0)=[103,114,97,110,116]) then
 (bif !decide ((r.length:Int)=4) then
 ((⟨0,0,[],[],[]⟩:PolicyR),((k:Int)+1),4)
 else (bif decide ((gt r 0)=[119,111,114,107]) then
 lt (Ef_ (gt r 1)) fun r7=>
 (bif !decide (r7.2=0) then
 ((⟨0,0,[],[],[]⟩:PolicyR),((k:Int)+1),r7.2)
 else Ak_ t (k+1) r7.1 give_ places slots grants)
 else (bif decide ((gt r 0)=[103,105,118,101]) then
 lt (Ef_ (gt r 1)) fun r8=>
 (bif !decide (r8.2=0) then
 ((⟨0,0,[],[],[]⟩:PolicyR),((k:Int)+1),r8.2)
 else Ak_ t (k+1) work r8.1 places slots grants)
 else (bif decide ((gt r 0)=[115,108,111,116]) then
 lt (Ag_ (⟨work,give_,places,slots,grants⟩:PolicyR) (gt r 1)) fun r9=>
 (bif !decide (r9.2=0) then
 ((⟨0,0,[],[],[]⟩:PolicyR),((k:Int)+1),r9.2)
 else Ak_ t (k+1) work give_ places (slots++[r9.1]) grants)
 else lt (Ag_ (⟨work,give_,places,slots,grants⟩:PolicyR) (gt r 1)) fun r10=>
 (bif !decide (r10.2=0) then
 ((⟨0,0,[],[],[]⟩:PolicyR),((k:Int)+1),r10.2)
 else lt (Ag_ (⟨work,give_,places,slots,grants⟩:PolicyR) (gt r 2)) fun r11=>
 (bif !decide (r11.2=0) then
 ((⟨0,0,[],[],[]⟩:PolicyR),((k:Int)+1),r11.2)
 else lt (Ef_ (gt r 3)) fun r12=>
 (bif !decide (r12.2=0) then
 ((⟨0,0,[],[],[]⟩:PolicyR),((k:Int)+1),r12.2)
 else Ak_ t (k+1) work give_ places slots (grants++[(⟨r10.1,r11.1,r12.1⟩:GrantR)]))))))))
 else (bif decide ((gt r 0)=[119,111,114,107]) then
 (bif !decide ((r.length:Int)=2) then
 ((⟨0,0,[],[],[]⟩:PolicyR),((k:Int)+1),4)
 else lt (Ef_ (gt r 1)) fun r13=>
 (bif !decide (r13.2=0) then
 ((⟨0,0,[],[],[]⟩:PolicyR),((k:Int)+1),r13.2)
 else Ak_ t (k+1) r13.1 give_ places slots grants))
 else (bif decide ((gt r 0)=[103,105,118,101]) then
 (bif !decide ((r.length:Int)=2) then
 ((⟨0,0,[],[],[]⟩:PolicyR),((k:Int)+1),4)
 else lt (Ef_ (gt r 1)) fun r14=>
 (bif !decide (r14.2=0) then
 ((⟨0,0,[],[],[]⟩:PolicyR),((k:Int)+1),r14.2)
 else Ak_ t (k+1) work r14.1 places slots grants))
 else (bif decide ((gt r 0)=[115,108,111,116]) then
 (bif !decide ((r.length:Int)=2) then
 ((⟨0,0,[],[],[]⟩:PolicyR),((k:Int)+1),4)
 else lt (Ag_ (⟨work,give_,places,slots,grants⟩:PolicyR) (gt r 1)) fun r15=>
 (bif !decide (r15.2=0) then
 ((⟨0,0,[],[],[]⟩:PolicyR),((k:Int)+1),r15.2)
 else Ak_ t (k+1) work give_ places (slots++[r15.1]) grants))
 else ((⟨0,0,[],[],[]⟩:PolicyR),((k:Int)+1),4)))))))
def Ib_ (s:Bs):PolicyR×Int×Int:=
 Ak_ (cuts 10 s) 0 0 0 [] [] []
def Se_:Bool:=
 lt (Fq_ [50,58,48,58,53]) fun r=>
 lt (Fq_ [51,58,48,58,53,58,55]) fun r1=>
 lt (Fq_ [51,58,53]) fun r2=>
 ((((((decide (r.2=0))&&(decide (r1.2=0)))&&(decide (r2.2=0)))&&(Gc_ r.1 r1.1))&&(!(Gc_ r.1 r2.1)))&&(!(Gc_ r1.1 r.1)))
def Lk_:Bool:=
 (Se_)
def Sg_:Bool:=
 lt (Ib_ [119,111,114,107,32,52,10,103,105,118,101,32,49,10,108,97,98,101,108,32,108,111,119,32,48,32,53,49,50,32,49,10,115,108,111,116,32,108,111,119]) fun r=>
 (((((((Lk_)&&true)&&(decide (r.2.1=0)))&&(decide (r.2.2=0)))&&(decide ((r.1.places.length:Int)=1)))&&(decide (r.1.work=4)))&&(decide (((gt r.1.places 0).bytes)=512)))
def Sf_:Bool:=
 (Sg_)
def Sj_:Bool:=
 lt (Cl_ (⟨[]⟩:LineR) (⟨3,[97],[],[],[],0,0⟩:Mail)) fun r=>
 lt (Cl_ r.1 (⟨5,[97],[],[],[],0,0⟩:Mail)) fun r1=>
 lt (Cg_ r1.1) fun r2=>
 lt (Cg_ r2.1) fun r3=>
 lt (Dh_ r3.1 3) fun r4=>
 lt (Dl_ r4.1) fun r5=>
 (((((((((decide (r.2=0))&&(decide (r1.2=0)))&&r2.2.2)&&(decide (r2.2.1.mail.id=3)))&&r3.2.2)&&(decide (r3.2.1.mail.id=5)))&&(decide (r4.2=0)))&&r5.2)&&(decide (r5.1.id=3)))
def Si_:Bool:=
 (Sj_)
def Kx_:Nat->Nat->B7_->Bool
  |0,_,_=>default
  | f2+1,v,x=>(bif decide ((v:Int)<40) then
 lt (B9_ x (⟨0,(IntKind.wrap .u8 (v:Int)),[]⟩:NoteR)) fun r=>
 Kx_ f2 (v+1) r.1
 else lt (F6_ x 9) fun r1=>
 lt (F6_ x 8) fun r2=>
 (((r1.2&&(decide (r1.1.kind=8)))&&(!r2.2))&&(decide ((E2_ x)=40))))
def Ot_:Bool:=
 Kx_ (40-0+1) 0 (⟨0,[]⟩:B7_)
def Sk_:Bool:=
 (Ot_)
def Ky_:Nat->Nat->RiseR->Bool
  |0,_,_=>default
  | f2+1,v,x=>(bif decide ((v:Int)<20) then
 lt (A6_ x (⟨0,[97],[],[],[],0,0⟩:Mail)) fun r=>
 Ky_ f2 (v+1) r.1
 else lt (Ff_ x 0) fun r1=>
 lt (Ff_ x 20) fun r2=>
 (((decide (r1.1=5))&&r1.2.2)&&(!r2.2.2)))
def Ou_:Bool:=
 Ky_ (20-0+1) 0 (⟨0,[]⟩:RiseR)
def Sl_:Bool:=
 (Ou_)
def Sp_:Bool:=
 lt (Ep_ 7 100) fun r=>
 lt (Bw_ r (⟨[113],3,0,[]⟩:QueueR)) fun r1=>
 lt (Ac_ r1.1 [113] (⟨0,[97],[],[],[],0,0⟩:Mail)) fun r2=>
 (((((Si_)&&(Sl_))&&(decide (r1.2=0)))&&(decide (r2.2.2.2=0)))&&(decide (r2.2.1=7)))
def Sn_:Bool:=
 (Sp_)
def Kz_:Nat->Nat->B_->Bool
  |0,_,_=>default
  | f2+1,v,x=>(bif decide ((v:Int)<([(⟨0,0,(⟨[97],1,[]⟩:ShopR),(⟨[],0,0,[]⟩:QueueR),(⟨[],[],false,[],[],false⟩:BindR),[],0,0,0,0,0,(⟨0,[],[],[],[],0,0⟩:Mail),[]⟩:DeedR),(⟨2,0,(⟨[],0,[]⟩:ShopR),(⟨[113],4,0,[]⟩:QueueR),(⟨[],[],false,[],[],false⟩:BindR),[],0,0,0,0,0,(⟨0,[],[],[],[],0,0⟩:Mail),[]⟩:DeedR),(⟨4,0,(⟨[],0,[]⟩:ShopR),(⟨[],0,0,[]⟩:QueueR),(⟨[97],[113],false,[],[],false⟩:BindR),[],0,0,0,0,0,(⟨0,[],[],[],[],0,0⟩:Mail),[]⟩:DeedR)].length:Int)) then
 lt (Aj_ x (gt [(⟨0,0,(⟨[97],1,[]⟩:ShopR),(⟨[],0,0,[]⟩:QueueR),(⟨[],[],false,[],[],false⟩:BindR),[],0,0,0,0,0,(⟨0,[],[],[],[],0,0⟩:Mail),[]⟩:DeedR),(⟨2,0,(⟨[],0,[]⟩:ShopR),(⟨[113],4,0,[]⟩:QueueR),(⟨[],[],false,[],[],false⟩:BindR),[],0,0,0,0,0,(⟨0,[],[],[],[],0,0⟩:Mail),[]⟩:DeedR),(⟨4,0,(⟨[],0,[]⟩:ShopR),(⟨[],0,0,[]⟩:QueueR),(⟨[97],[113],false,[],[],false⟩:BindR),[],0,0,0,0,0,(⟨0,[],[],[],[],0,0⟩:Mail),[]⟩:DeedR)] v)) fun r1=>
 (bif !decide (r1.2.2=0) then
 false
 else Kz_ f2 (v+1) r1.1)
 else lt (Aj_ x (⟨6,0,(⟨[],0,[]⟩:ShopR),(⟨[],0,0,[]⟩:QueueR),(⟨[],[],false,[],[],false⟩:BindR),[],0,0,0,0,0,(⟨0,[97],[],[],[120],0,0⟩:Mail),[]⟩:DeedR)) fun r2=>
 lt (Aj_ r2.1 (⟨7,0,(⟨[],0,[]⟩:ShopR),(⟨[],0,0,[]⟩:QueueR),(⟨[],[],false,[],[],false⟩:BindR),[113],0,0,0,0,0,(⟨0,[],[],[],[],0,0⟩:Mail),[]⟩:DeedR)) fun r3=>
 ((((((((Sf_)&&(Sn_))&&true)&&(Sk_))&&(decide (r2.2.2=0)))&&(decide (r2.2.1.count=1)))&&(decide (r3.2.2=0)))&&(decide (r3.2.1.item.mail.body=[120]))))
def Ow_:Bool:=
 lt (Cx_ (⟨4,1,[(⟨[108,111,119],(⟨0,0⟩:LabelR),500,1⟩:PlaceR)],[0],[]⟩:PolicyR) 0) fun r=>
 Kz_ (([(⟨0,0,(⟨[97],1,[]⟩:ShopR),(⟨[],0,0,[]⟩:QueueR),(⟨[],[],false,[],[],false⟩:BindR),[],0,0,0,0,0,(⟨0,[],[],[],[],0,0⟩:Mail),[]⟩:DeedR),(⟨2,0,(⟨[],0,[]⟩:ShopR),(⟨[113],4,0,[]⟩:QueueR),(⟨[],[],false,[],[],false⟩:BindR),[],0,0,0,0,0,(⟨0,[],[],[],[],0,0⟩:Mail),[]⟩:DeedR),(⟨4,0,(⟨[],0,[]⟩:ShopR),(⟨[],0,0,[]⟩:QueueR),(⟨[97],[113],false,[],[],false⟩:BindR),[],0,0,0,0,0,(⟨0,[],[],[],[],0,0⟩:Mail),[]⟩:DeedR)].length)-0+1) 0 r
def A5_ (s:Bs):Bs:=
 (bif decide (s=[]) then
 [46]
 else s)
def Aq_ (n:Int):Bs:=
 (decB n)
def Fm_ (b:BookR):(List ShopR):=
 b.shops
def Al_:List ItemR->Int->Int
  |[],n=>n
  | x::t,n=>(bif !(x.lent) then
 Al_ t (n+1)
 else Al_ t n)
def Bq_ (l:LineR):Int:=
 Al_ l.items 0
def Bt_:List BindR->List BindR->(List BindR)
  |[],out=>out
  |x::t,out=>Bt_ t (out++[x])
def Em_ (b:BookR):(List BindR):=
 Bt_ b.binds []
theorem M2_ (s:Bs):(A5_ s).length<=s.length+1:=by
  unfold A5_
  by_cases h:s=[]
  · rw[decide_eq_true h];simp
  · rw[decide_eq_false h];simp
theorem I5_ (n:Int):(Aq_ n).length<=20:=De_ n
theorem Zr_:∀ (l:List ItemR) (n:Int),n<=Al_ l n/\Al_ l n<=n+l.length
  |[],n=>by simp[Al_]
  |x::t,n=>by
    unfold Al_
    have h1:=Zr_ t n
    have h2:=Zr_ t (n+1)
    cases e:!x.lent with
    |true=>simp only[cond_true,List.length_cons];omega
    |false=>simp only[cond_false,List.length_cons];omega
theorem lrdy_b (l:LineR):0<=Bq_ l/\Bq_ l<=l.items.length:=by
  have :=Zr_ l.items 0
  unfold Bq_
  omega
def Dk_ (a:LabelR):Nat->Bs->Nat->Bs
  |0,_,_=>default
  | f2+1,s,v=>(bif decide ((v:Int)<32) then
 (bif decide ((IntKind.wrap .u32 ((BitVec.ofInt (IntKind.bits .u32) (Int.fdiv a.set_ (2 ^ (min ((v:Int):Int).toNat (IntKind.bits .u32)))) &&& BitVec.ofInt (IntKind.bits .u32) 1).toNat))=1) then
 Dk_ a f2 (s++([58]++(itoB (v:Int)))) (v+1)
 else Dk_ a f2 s (v+1))
 else s)
def Ec_ (a:LabelR):Bs:=
 Dk_ a (32-0+1) (itoB a.level) 0
def Gh_ (kind:Int):Bs:=
 (bif decide (0<=(kind-1)) then
 (bif decide ((kind-1)<([[108,111,115,116],[114,101,108,101,97,115,101,100],[119,111,107,101,110],[114,101,102,117,115,101,100],[98,101,103,117,110],[111,118,101,114]].length:Int)) then
 (gt [[108,111,115,116],[114,101,108,101,97,115,101,100],[119,111,107,101,110],[114,101,102,117,115,101,100],[98,101,103,117,110],[111,118,101,114]] (((kind-1)).toNat))
 else lt (Aq_ kind) fun r=>
 r)
 else lt (Aq_ kind) fun r1=>
 r1)
def Bs_ (p:PolicyR) (k:Int):Bs:=
 (bif decide (k<(p.places.length:Int)) then
 ((gt p.places ((k).toNat)).name)
 else (itoB k))
end Go.SW.V
namespace Go.SW
variable {P:Program} {n:Nat} {N:Rest} {H0:Env} {all rest:List Oper} {Q:Qs} {ks:List Kt} {T ty d:Nat} {pos:String} {af:Array Edge} {x:Operand} {K:St->Prop}
def E2 (P:Program) (n:Nat) (N:Rest) (H0:Env) (all:List Oper) (o:Oper) (js:List Nat) (s:St) (K:St->Prop):Prop:=
  ∀ F H L,Abs H0 s F H L->Op1 P n N all o (fun F' H' L'=>HLe H H'/\(∀ q,memB js q=false->L' q=L q)/\∃ s',Abs H0 s' F' H' L'/\K s') F H L
theorem ef2 {o:Oper} {js:List Nat} {s:St} (h:E2 P n N H0 all o js s (fun s'=>Hd P n N H0 Q (.ops all rest) ks s')):Hd P n N H0 Q (.ops all (o::rest)) ks s:=fun F H L ha=>
  ow1 ((h F H L ha).imp fun F' H' L' ⟨_,_,s',h1,h2⟩=>h2 F' H' L' h1)
theorem ve2s {xs:List Nat} {fuel:Nat} {listed:Array Bool} {o:Oper} {js:List Nat} {s:St} (i:Nat) (hi:nth all i=some o) (hr:Region.ready .any all.toArray listed=[i]) (hj:js.all (memB xs)=true) (h:E2 P n N H0 all o js s (fun s'=>Hv P n N H0 Q (some xs) all fuel (listed.setIfInBounds i true) ks s')):Hv P n N H0 Q (some xs) all (fuel+1) listed ks s:=by
  intro F H L Lk ha hL
  rw[It_] at hi
  have hle:∀ L':Ls,(∀ q,memB js q=false->L' q=L q)->LkR (some xs) Lk L':=fun L' hL' q=>by
    rw[hL q]
    cases e:memB xs q with
    |true=>rfl
    |false=>
      refine (hL' q ?_).symm
      cases e2:memB js q with
      |false=>rfl
      |true=>have :=List.all_eq_true.1 hj q (Lq_ e2);rw[e] at this;cases this
  refine vw_e i hi hr ((h F H L ha).imp fun F' H' L' ⟨h1,h2,s',h3,h4⟩=>⟨⟨h1,fun q x hx=>?_⟩,h4 F' H' L' Lk h3 (hle L' h2)⟩)
  have :=hle L' h2 q
  rw[this] at hx
  cases e:memB xs q with
  |true=>rw[e] at hx;cases hx
  |false=>rw[e] at hx;exact hx
def tlL {α:Type} (b T:Nat) (u:Value) (k e:Nat) (enc:α->List PV) (xs:List α):Nat->Blk:=lups (lups (fun _=> .no) 0 (.box b T [.osl 1])) 1 (.arr u k e enc xs)
def two (L M:Ls) (i j:Nat):Ls:=fun q=>if q=i then M 0 else if q=j then M 1 else L q
structure Fs (P:Program) (G:Gb) (f:FuncId) (args:List PV) (T k e:Nat) {α:Type} (enc:α->List PV) (xs ys:List α):Prop where
  cb:U_ P f
  run:∀ (N:Rest) (H:Hp) (L:Ls) (w:World) (i j b:Nat) (vs:List Value) (u:Value),G.p H->Sims H args vs->i≠j->L i=some (b,bx T [u]) ->
    SimB (tlL b T u k e enc xs) H (.arr u k e enc xs) (L j)->Mem N H L w ->
    Calls P f (Value.pointer (some ⟨b,0,none⟩)::vs).toArray w fun en w'=>∃ H' u' M,en = .returned (.tuple #[])/\M 0=some (b,bx T [u'])/\SimB (tlL b T u' k e enc ys) H' (.arr u' k e enc ys) (M 1)/\HLe H H'/\Mem N H' (two L M i j) w'
def fsK {α:Type} (tb:Tb) (rs:List ResultVar) (b T k e:Nat) (enc:α->List PV) (ys:List α):Qs:=fun en s=>rtK tb rs (.tup []) en s/\s.L 0 = .box b T [.osl 1]/\∃ u',s.L 1 = .arr u' k e enc ys
theorem rsn {α:Type} {tb:Tb} {rs:List ResultVar} {b T k e:Nat} {enc:α->List PV} {ys:List α} {s:St} {ps:List PV} {as0 bs:List Nat} {u:Value} (h:Hd_ tb s rs=some (ps,as0,bs)) (he:as0=bs) (hp:PLe (tupP ps) (.tup [])) (hb:s.L 0 = .box b T [.osl 1]) (hl:s.L 1 = .arr u k e enc ys):Hd P n N H0 (fsK tb rs b T k e enc ys) (.ex .normal) [] s:=⟨⟨.inl rfl,ps,as0,bs,h,he,hp⟩,hb,u,hl⟩
theorem mem_two {N:Rest} {H H':Hp} {L M:Ls} {w w':World} {i j:Nat} (h:Mem N H L w) (hij:i≠j) (k:Mem (N.plus (lupd (lupd L i none) j none)) H' M w'):Mem N H' (two L M i j) w':=by
  have hr:∀ {q:Nat} {x:Nat×Obj},lupd (lupd L i none) j none q=some x->q≠j/\q≠i/\L q=some x:=fun hq=>by
    obtain⟨h1,h2⟩:=Kf_ hq
    obtain⟨h3,h4⟩:=Kf_ h2
    exact⟨h1,h3,h4⟩
  have hl:∀ {q:Nat} {x:Nat×Obj},q≠i->q≠j->L q=some x->lupd (lupd L i none) j none q=some x:=fun h1 h2 h3=>by
    rw[Av_ _ _ _ _ h2,Av_ _ _ _ _ h1];exact h3
  have hinj:∀ (p q:Nat) (x y:Nat×Obj),lupd (lupd L i none) j none p=some x->lupd (lupd L i none) j none q=some y->x.1=y.1->p=q:=fun p q x y hp hq e=>h.inj p q x y (hr hp).2.2 (hr hq).2.2 e
  have hnb:∀ b o,N.heap b=some o->∀ (q:Nat) (x:Nat×Obj),lupd (lupd L i none) j none q=some x->x.1≠b:=fun b o hb q x hq=>h.nBoth b o hb q x (hr hq).2.2
  have hsub:Mem N H (lupd (lupd L i none) j none) w:=h.sub (fun q x hq=>⟨q,(hr hq).2.2⟩) hinj
  have hdis:∀ {a:Nat} {x:Nat×Obj} {q:Nat} {y:Nat×Obj},M a=some x->q≠i->q≠j->L q=some y->x.1≠y.1:=fun {a x q y} ha h1 h2 hq e=>by
    obtain⟨xb,xo⟩:=x
    obtain⟨yb,yo⟩:=y
    have e':xb=yb:=e
    have hn:=(k.nl a xb xo ha).1
    have :(N.plus (lupd (lupd L i none) j none)).heap yb=some yo:=Rest.plus_of hsub (i:=q) (hl h1 h2 hq)
    rw[e'] at hn
    rw[hn] at this;cases this
  refine h.unframe (Lr:=lupd (lupd L i none) j none) (fun q x hq=>⟨q,(hr hq).2.2⟩) hinj k (fun q x hq=>?_) (fun p q x y hp hq e=>?_) hnb
  · unfold two at hq
    split at hq
    · exact .inl ⟨0,hq⟩
    · split at hq
      · exact .inl ⟨1,hq⟩
      · rename_i h1 h2;exact .inr ⟨q,hl h1 h2 hq⟩
  · have hM:=k.inj
    unfold two at hp hq
    by_cases p1:p=i
    · rw[if_pos p1] at hp
      by_cases q1:q=i
      · rw[p1,q1]
      · rw[if_neg q1] at hq
        by_cases q2:q=j
        · rw[if_pos q2] at hq;have :=hM 0 1 x y hp hq e;cases this
        · rw[if_neg q2] at hq;exact (hdis hp q1 q2 hq e).elim
    · rw[if_neg p1] at hp
      by_cases p2:p=j
      · rw[if_pos p2] at hp
        by_cases q1:q=i
        · rw[if_pos q1] at hq;have :=hM 1 0 x y hp hq e;cases this
        · rw[if_neg q1] at hq
          by_cases q2:q=j
          · rw[p2,q2]
          · rw[if_neg q2] at hq;exact (hdis hp q1 q2 hq e).elim
      · rw[if_neg p2] at hp
        by_cases q1:q=i
        · rw[if_pos q1] at hq;exact (hdis hq p1 p2 hp e.symm).elim
        · rw[if_neg q1] at hq
          by_cases q2:q=j
          · rw[if_pos q2] at hq;exact (hdis hq p1 p2 hp e.symm).elim
          · rw[if_neg q2] at hq;exact h.inj p q x y hp hq e
theorem mem_both {N:Rest} {H:Hp} {L:Ls} {w:World} {i j:Nat} (h:Mem N H L w) (hij:i≠j):Mem (N.plus (lupd (lupd L i none) j none)) H (fun q=>if q=0 then L i else if q=1 then L j else none) w:=by
  have hr:∀ {q:Nat} {x:Nat×Obj},lupd (lupd L i none) j none q=some x->q≠j/\q≠i/\L q=some x:=fun hq=>by
    obtain⟨h1,h2⟩:=Kf_ hq
    obtain⟨h3,h4⟩:=Kf_ h2
    exact⟨h1,h3,h4⟩
  have hc:∀ (q:Nat) (x:Nat×Obj),(if q=0 then L i else if q=1 then L j else none)=some x->(q=0/\L i=some x)\/(q=1/\L j=some x):=fun q x hq=>by
    split at hq
    · rename_i e;exact .inl ⟨e,hq⟩
    · split at hq
      · rename_i e;exact .inr ⟨e,hq⟩
      · cases hq
  refine h.frame _ _ (fun q x hq=>?_) (fun q x hq=>⟨q,(hr hq).2.2⟩) (fun p q x y hp hq e=>?_) (fun p q x y hp hq e=>h.inj p q x y (hr hp).2.2 (hr hq).2.2 e) (fun p q x y hp hq e=>?_)
  · rcases hc q x hq with ⟨_,h1⟩|⟨_,h1⟩
    · exact⟨i,h1⟩
    · exact⟨j,h1⟩
  · rcases hc p x hp with ⟨e1,h1⟩|⟨e1,h1⟩
    · rcases hc q y hq with ⟨e2,h2⟩|⟨e2,h2⟩
      · rw[e1,e2]
      · exact (hij (h.inj _ _ _ _ h1 h2 e)).elim
    · rcases hc q y hq with ⟨e2,h2⟩|⟨e2,h2⟩
      · exact (hij (h.inj _ _ _ _ h2 h1 e.symm)).elim
      · rw[e1,e2]
  · obtain⟨g1,g2,g3⟩:=hr hq
    rcases hc p x hp with ⟨_,h1⟩|⟨_,h1⟩
    · exact g2 (h.inj _ _ _ _ g3 h1 e.symm)
    · exact g1 (h.inj _ _ _ _ g3 h1 e.symm)
theorem fs_cw {α:Type} {tb:Tb} {G:Gb} {m:Nat} {f:FuncId} {fn:Func} {c:Code} {args:List PV} {T k e:Nat} {enc:α->List PV} {xs ys:List α} (ht:tbB P tb=true) (hf:P.funcs[f]? = some fn) (hb:fn.body=some c) (hn:fn.ntmps=m) (hs:Nat.ble (args.length+1) m=true) (hcb:U_ P f) (hna:Bz_ args=true)
    (h:PV.wfs args->xs.length<=140737488355328->∀ b u N H,G.p H->Hd P m N ⟨H,G⟩ (fsK tb fn.results.toList b T k e enc ys) (.code c) [] ⟨Nl_ (.own 0 b 0::args),tlL b T u k e enc xs⟩):Fs P G f args T k e enc xs ys:=by
  refine⟨hcb,fun N H L w i j b vs u hg hsim hij hL hx hm=>?_⟩
  subst hn
  have hs':Sims H (.own 0 b 0::args) (Value.pointer (some ⟨b,0,none⟩)::vs):=hsim.cons Sim.own
  have hlen:xs.length<=140737488355328:=by obtain⟨_,_,_,h⟩:=hx;exact h
  have h1:=h hsim.wf hlen b u (N.plus (lupd (lupd L i none) j none)) H hg (I9_ (Value.pointer (some ⟨b,0,none⟩)::vs).toArray) H (fun q=>if q=0 then L i else if q=1 then L j else none) ⟨.refl H,hg,fun t=>Kw_ hs' (by simp [Bz_,hna,PV.noOsl]) t,fun q=>by
    by_cases e1:q=1
    · subst e1;exact hx
    · by_cases e0:q=0
      · subst e0;exact ⟨[u],hL,by
          refine⟨rfl,fun a p v hp hv=>?_⟩
          cases a with
          |zero=>simp at hp hv;subst hp;subst hv;simp[SimT,tlL,lups]
          |succ a=>simp at hp⟩
      · simp only[tlL,G7_ _ _ _ _ e1,G7_ _ _ _ _ e0];trivial⟩
  refine F9_ (R:=fun v H' L'=>v = .tuple #[]/\∃ u',L' 0=some (b,bx T [u'])/\SimB (tlL b T u' k e enc ys) H' (.arr u' k e enc ys) (L' 1)) (H0:=H) hf hb (by have :=Nat.le_of_ble_eq_true hs;simp[hsim.1];omega) (Iv_ (fun en F' H' L' hq=>?_) h1) (mem_both hm hij) ?_
  · obtain⟨s',ha',hq',hq0,u',hq1⟩:=hq
    obtain⟨he,v,hr,hv⟩:=M1_ (N:=N.plus (lupd (lupd L i none) j none)) ht ha' hq'
    obtain⟨vs0,rfl,hvs⟩:=hv.inv_tup
    have hz:vs0=[]:=List.length_eq_zero_iff.1 hvs.1
    subst hz
    have h3:=ha'.l 0
    rw[hq0] at h3
    obtain⟨vc,hL0,hl0,hsv⟩:=h3
    have h4:=ha'.l 1
    rw[hq1] at h4
    have hvc:vc=[u']:=by
      match vc,hl0 with
      |[v],_=>
        have :=hsv 0 (.osl 1) v rfl rfl
        simp only[SimT,hq1] at this
        rw[this]
    subst hvc
    rcases he with rfl|rfl
    · exact⟨_,hr,ha'.le,rfl,u',hL0,h4⟩
    · exact⟨_,hr,ha'.le,rfl,u',hL0,h4⟩
  · intro v H' L' w' ⟨hv,u',h0,h1⟩ hl hm'
    subst hv
    exact⟨H',u',L',rfl,h0,h1,hl,mem_two hm hij hm'⟩
theorem fcall {α:Type} {f:FuncId} {args:List PV} {as0:Array Operand} {ats:Array TypeId} {i j b b' T0 k e off:Nat} {u:Value} {enc:α->List PV} {xs ys:List α} {s:St} (h:Fs P H0.g f args T0 k e enc xs ys) (ha:argsP s.F x as0.toList=some (f, .own i b off::args)) (hoff:off=0) (hb:s.L i = .box b' T0 [.osl j]) (hj:s.L j = .arr u k e enc xs) (hij:Nat.beq i j=false) (hbb:b'=b) (hd:Nat.blt d n=true)
    (kk:∀ u',K ⟨updp (H0_ j s.F) d (.tup []),lups (lups (F8_ j s.L) j (.arr u' k e enc ys)) i (.box b T0 [.osl j])⟩):E2 P n N H0 all ⟨some d, .call ⟨.value x,as0,ats⟩,ty,pos,af,none⟩ [i,j] s K:=by
  intro F H L hab
  subst hoff;subst hbb
  have hij':i≠j:=fun q=>by subst q;simp at hij
  obtain⟨us,h1,h2⟩:=If_ (ats:=ats) hab.f ha h.cb
  obtain⟨v0,vs,rfl,h3,h4⟩:=h1.inv_cons
  have h5:=h3.inv_own
  subst h5
  have h6:=hab.l i
  rw[hb] at h6
  obtain⟨vc,hL,hl,hsv⟩:=h6
  have hvc:vc=[u]:=by
    match vc,hl with
    |[v],_=>
      have :=hsv 0 (.osl j) v rfl rfl
      simp only[SimT,hj] at this
      rw[this]
  subst hvc
  have h7:=hab.l j
  rw[hj] at h7
  intro a w hA hm
  rw[if_pos (by simp[Region.wanted])]
  unfold Oper.wp
  rw[hA.eval,h2]
  refine (h.run N H L w i j b' vs u hab.g h4 hij' hL h7 hm).mono fun e' w' ⟨H',u',M,he,hM0,hM1,hl',hm'⟩=>?_
  subst he
  have g1:=(hab.mono hl').turn j (B:= .arr u' k e enc ys) (x:=M 1) hM1
  have g2:=g1.turnB i (B:= .box b' T0 [.osl j]) (x:=M 0) trivial ⟨[u'],hM0,rfl,fun a p v hp hv=>by
    cases a with
    |zero=>
      simp at hp hv;subst hp;subst hv
      simp only[SimT,G7_ _ _ _ _ (Ne.symm hij'),Db_]
    |succ a=>simp at hp⟩
  have e1:lupd (lupd L j (M 1)) i (M 0)=two L M i j:=by
    funext q
    unfold two
    by_cases q1:q=i
    · subst q1;rw[A8_,if_pos rfl]
    · rw[Av_ _ _ _ _ q1,if_neg q1]
      by_cases q2:q=j
      · subst q2;rw[A8_,if_pos rfl]
      · rw[Av_ _ _ _ _ q2,if_neg q2]
  rw[e1] at g2
  refine⟨_,H',_,hA.put (by simpa using hd) (.tuple #[]),hm',hl',fun q hq=>?_,_,Abs.put (p:= .tup []) g2 d (Sim.tup (cs:=[]) (vs:=[]) rfl (fun _ _ _ h=>by cases h)),kk u'⟩
  simp only[memB] at hq
  unfold two
  have q1:q≠i:=fun e=>by subst e;simp at hq
  have q2:q≠j:=fun e=>by subst e;simp at hq
  rw[if_neg q1,if_neg q2]
end Go.SW
namespace Go.SW.V
open Go.SW
variable {P:Program} {n:Nat} {N:Rest} {H0:Env} {all rest:List Oper} {Q:Qs} {ks:List Kt} {fF:Nat->PV} {fL:Nat->Blk} {T ty d:Nat} {pos:String} {af:Array Edge} {x:Operand} {K:St->Prop}
theorem rsn {α:Type} {tb:Tb} {rs:List ResultVar} {b T k e:Nat} {enc:α->List PV} {ys zs:List α} {ps:List PV} {as0 bs:List Nat} {u:Value} (hy:zs=ys) (h:Hd_ tb ⟨fF,fL⟩ rs=some (ps,as0,bs)) (he:as0=bs) (hp:PLe (tupP ps) (.tup [])) (hb:fL 0 = .box b T [.osl 1]) (hl:fL 1 = .arr u k e enc ys):Hd P n N H0 (fsK tb rs b T k e enc zs) (.ex .normal) [] ⟨fF,fL⟩:=by subst hy;exact SW.rsn h he hp hb hl
theorem fcall {α:Type} {f:FuncId} {args:List PV} {as0:Array Operand} {ats:Array TypeId} {i j b b' T0 k e off:Nat} {u:Value} {enc:α->List PV} {xs ys:List α} (h:Fs P H0.g f args T0 k e enc xs ys) (ha:argsP fF x as0.toList=some (f, .own i b off::args)) (hoff:off=0) (hb:fL i = .box b' T0 [.osl j]) (hj:fL j = .arr u k e enc xs) (hij:Nat.beq i j=false) (hbb:b'=b) (hd:Nat.blt d n=true)
    (kk:∀ u',K ⟨updp (H0_ j fF) d (.tup []),lups (lups (F8_ j fL) j (.arr u' k e enc ys)) i (.box b T0 [.osl j])⟩):E2 P n N H0 all ⟨some d, .call ⟨.value x,as0,ats⟩,ty,pos,af,none⟩ [i,j] ⟨fF,fL⟩ K:=SW.fcall (s:=⟨fF,fL⟩) h ha hoff hb hj hij hbb hd kk
theorem T8_ {α:Type} {e k:Nat} {u:Value} {enc:α->List PV} {xs:List α} {o:Oper} {js:List Nat} (i:Nat) (hb:fL i = .arr u k e enc xs) (h:E2 P n N H0 all o js ⟨Vj_ i enc xs fF,Tu_ i enc xs fL⟩ K):E2 P n N H0 all o (i::js) ⟨fF,fL⟩ K:=by
  intro F H L ha a w hA hm
  obtain⟨H1,hl1,hg1,hm1⟩:=hm.giveO (i:=i) rfl
  have ha1:=ha.give hb hl1 hg1
  refine (h F H1 (lupd L i none) ha1).imp (fun F' H' L' ⟨x,y,z⟩=>⟨hl1.trans x,fun q hq=>?_,z⟩) a w hA hm1
  simp only[memB] at hq
  have hne:q≠i:=fun e=>by subst e;simp at hq
  have hb:Nat.beq q i=false:=by cases e:Nat.beq q i with
    |false=>rfl
    |true=>exact (hne (Nat.eq_of_beq_eq_true e)).elim
  rw[hb,cond_false] at hq
  exact (y q hq).trans (Av_ _ _ _ _ hne)
end Go.SW.V
namespace Go.SW
structure TellerR where
  l:List Bs
deriving DecidableEq,Inhabited
def TellerR.pc (x:TellerR):List PV:=[.sl strc x.l]
end Go.SW
namespace Go.SW.V
open Go.SW
def A0_ (t:List Bs) (words:List Bs):List Bs:=
 (t++[joinB words [32]])
theorem Wt_ {l:List DeedR} {k:Nat} {d:DeedR} (h:(PV.sl DeedR.pc l).wf) (hd:l[k]? = some d):0<=d.mail.hops:=by
  have :=(h.2 d (List.mem_of_getElem? hd)).2.2.2.2.2.2.2.2.2.2.2.2.2.2.2.2.2.2.2.2.2.2.2.2.2.2.2.1
  exact this.1
theorem P4_ {s:E_} {n:Bs} (h:StkOk s):LnOk (Ap_ s n):=by
  unfold Ap_ lt
  refine bt (P:=LnOk) (fun _=>O4_) fun _=>?_
  generalize (K_ s n).toNat=k
  cases e:s.rows[k]? with
  |none=>
    have :(gt s.rows k)=default:=by simp[gt,e]
    rw[this];exact O4_
  |some x=>
    have :(gt s.rows k)=x:=by simp[gt,e]
    rw[this];exact h.1.at e
theorem Ta_:∀ (t:List RowR) (out:List QueueR),(Ad_ t out).length=out.length+t.length
  |[],out=>rfl
  |x::t,out=>by
    unfold Ad_
    rw[Ta_ t];simp;omega
theorem Nh_ {s:E_} (h:StkOk s):(Ax_ s).length<=8:=by
  unfold Ax_
  rw[Ta_]
  have :=h.1.1
  simp;omega
theorem all_len0:∀ (t out:List ItemR),(Bv_ t out).length=out.length+t.length
  |[],out=>rfl
  |x::t,out=>by
    unfold Bv_ lt
    rw[all_len0 t];simp;omega
theorem all_len {l:LineR} (h:LnOk l):(Fr_ l).length<=64:=by
  unfold Fr_
  rw[all_len0]
  have :=h.1
  simp;omega
structure Clo (B:BookR->Prop) (K:E_->Prop) (M:B7_->Prop):Prop where
  ma:∀ {b x},0<=x.sort->B b->B (B0_ b x).1
  bd:∀ {b x},(∀ p∈x.want,p.wf)->B b->B (As_ b x).1
  dp:∀ {b n},B b->B (Dn_ b n).1
  ub:∀ {b x},B b->B (Cv_ b x).1
  fg:∀ {b q},B b->B (E3_ b q)
  km:∀ {k q},K k->K (Bw_ k q).1
  kd:∀ {k n},K k->K (Cd_ k n).1
  kp:∀ {k n m},StkOk k->K k->K (Ac_ k n m).1
  kl:∀ {k n},K k->K (Bl_ k n).1
  kr:∀ {k n i},K k->K (T_ k n i).1
  kb:∀ {k n i},K k->K (Cc_ k n i).1
  ks:∀ {k p m},K k->K (Ay_ k p m).1
  kw:∀ {k},StkOk k->K k->K (C7_ k)
  na:∀ {n x},0<=x.kind/\x.kind<=255->M n->M (B9_ n x).1
def Cl (B:BookR->Prop) (K:E_->Prop) (M:B7_->Prop) (s:B_):Prop:=B s.x.book/\K s.x.stock/\M s.x.notes
section
variable {B:BookR->Prop} {K:E_->Prop} {M:B7_->Prop} (C:Clo B K M)
include C
variable {s:B_}
omit C in
theorem Cl.stock (h:Cl B K M s) {k:E_} (hk:K k):Cl B K M ⟨⟨s.x.book,k,s.x.notes,s.x.seen,s.x.spent⟩,s.policy,s.place⟩:=⟨h.1,hk,h.2.2⟩
theorem Cl.note (h:Cl B K M s) {t k:Int} {x:Bs} (hk:0<=k/\k<=255):Cl B K M (Be_ s t k x):=⟨h.1,h.2.1,C.na hk h.2.2⟩
theorem Cl.spend (h:Cl B K M s) (to' t:Int):Cl B K M (Bn_ s to' t).1:=by
  unfold Bn_ lt
  let Q:B_×Int->Prop:=fun r=>Cl B K M r.1
  refine bt (P:=Q) (fun _=>h) fun _=>?_
  exact lt1E (P:=Q) (fun _=>True) trivial fun x _=>bt (P:=Q) (fun _=>h) fun _=>⟨h.1,h.2.1,C.na ⟨(by decide :(0:Int)<=2),(by decide :(2:Int)<=255)⟩ h.2.2⟩
section
variable {m:Mail} {tick:Int} {r:List Bs×List Bs×Int}
theorem send1_c {gone:List OutR} (hs:Cl B K M s):∀ (t:List Bs) (n:Int) (x:B_),Cl B K M x->Cl B K M (Ab_ s m tick r gone t n x).1
  |[],n,x,hx=>hx
  |q::t,n,x,hx=>by
    unfold Ab_ lt
    let Q:B_×List OutR×Int×Int->Prop:=fun r=>Cl B K M r.1
    refine lp1E (P:=Q) (Cl B K M) ?_ fun y hy=>?_
    · refine bt (P:=LoP _ _) (fun _=>?_) fun _=>hx
      exact bt (P:=LoP _ _) (fun _=>hs) fun _=>Cl.spend C hx _ _
    · exact bt (P:=Q) (fun _=>hs) fun _=>send1_c hs t _ _ (hy.stock (C.ks hy.2.1))
theorem Wc_ (hs:Cl B K M s) (h0:0<=m.hops):∀ (t:List Bs) (gone:List OutR) (n:Int) (x:B_),StOk x->Cl B K M x->Cl B K M (I_ s m tick r t gone n x).1
  |[],gone,n,x,_,hx=>by
    unfold I_
    exact send1_c C hs _ _ _ hx
  |q::t,gone,n,x,ho,hx=>by
    unfold I_ lt
    let Q:B_×List OutR×Int×Int->Prop:=fun r=>Cl B K M r.1
    refine bt (P:=Q) (fun _=>Wc_ hs h0 t _ _ x ho hx) fun _=>?_
    generalize Jl_ m.due tick (V_ x.x.stock q).1.life=due
    have hp:=(Sa_ (s:=x.x.stock) (n:=q) (m:=⟨0,m.shop,m.key,m.head,m.body,due,m.hops⟩) ho.stk h0).1
    have hk:=C.kp (n:=q) (m:=⟨0,m.shop,m.key,m.head,m.body,due,m.hops⟩) ho.stk hx.2.1
    refine bt (P:=Q) (fun _=>hs) fun _=>?_
    exact bt (P:=Q) (fun _=>Wc_ hs h0 t _ _ _ (At_ ho hp) (hx.stock hk)) fun _=>Wc_ hs h0 t _ _ _ (At_ ho hp) (hx.stock hk)
theorem send_c (ho:StOk s) (hs:Cl B K M s) (h0:0<=m.hops):Cl B K M (H_ s m tick).1:=by
  unfold H_ lt
  let Q:B_×List OutR×Int×Int->Prop:=fun r=>Cl B K M r.1
  exact bt (P:=Q) (fun _=>hs) fun _=>Wc_ C hs h0 _ _ _ _ ho hs
end
theorem Uy_ (tick:Int):∀ (f:Nat) (gone:List OutR) (lost:Int) (x:B_),Qu_ gone lost x->wtk x.x.stock+wto gone<f->Cl B K M x->Cl B K M (A3_ tick f gone lost x).1
  |0,_,_,_,_,h,_=>by omega
  |f+1,gone,lost,x,hI,hf,hx=>by
    unfold A3_ lt
    let Q:B_×Int->Prop:=fun r=>Cl B K M r.1
    refine bt (P:=Q) (fun e=>?_) fun _=>hx
    have hn:0<gone.length:=by simpa using e
    refine bt (P:=Q) (fun _=>Uy_ tick f _ _ _ (Pl_ hI hn) (Rl_ hn hf) hx) fun _=>?_
    have hm:MlOk (gt gone 0).mail:=hI.2.1 _ (Ij_ hn)
    refine bt (P:=Q) (fun _=>?_) fun e4=>?_
    · have h:=Ik_ (s:=x) (t:=tick) (k:=1) (x:=(gt gone 0).queue) hI.1
      exact Uy_ tick f _ _ _ (Pm_ hI h.1 h.2 hn) (T2_ h.2 hn hf) (Cl.note C hx (by decide))
    · simp only[Bool.or_eq_false_iff,decide_eq_false_iff_not,Bool.not_eq_false',decide_eq_true_eq] at e4
      have hs:=Js_ (s:=x) (m:=⟨(D_ (gt gone 0).mail).id,(V_ x.x.stock (gt gone 0).queue).1.dead,(D_ (gt gone 0).mail).key,(D_ (gt gone 0).mail).head,(D_ (gt gone 0).mail).body,0,IntKind.wrap .u8 ((D_ (gt gone 0).mail).hops+1)⟩) (tick:=tick) hI.1 (I1_ _)
      exact Uy_ tick f _ _ _ (Pn_ hI hs.1 hs.2.1 hn rfl hm e4.1 hs.2.2 rfl e4.2) (Rm_ hn hf rfl hm e4.1 hs.2.2 rfl e4.2) (send_c C hI.1 hx (I1_ _))
theorem Ux_ {gone:List OutR} {tick:Int} (h:StOk s) (hg:gone.length<=600/\∀ g∈gone,MlOk g.mail) (hs:Cl B K M s):Cl B K M (A2_ s gone tick).1:=
  Uy_ C tick _ gone 0 s (buryI0 h hg) (Nat.lt_succ_self _) hs
section
variable {d:DeedR}
theorem settle_c (h:StOk s) (hs:Cl B K M s):Cl B K M (Bf_ s d).1:=by
  unfold Bf_ lt
  let Q:B_×X_×Int->Prop:=fun r=>Cl B K M r.1
  refine bt (P:=Q) (fun _=>hs) fun _=>?_
  refine bt (P:=Q) (fun _=>hs.stock (C.kb hs.2.1)) fun _=>?_
  have hr:=H9_ (n:=d.name) (id:=d.id) h.stk
  refine bt (P:=Q) (fun _=>Ux_ C (At_ h hr.1) ⟨by simp,fun g hg=>?_⟩ (hs.stock (C.kr hs.2.1))) fun _=>hs.stock (C.kr hs.2.1)
  rw[List.mem_singleton.1 hg];exact hr.2
theorem late_c0 {t:Int}:∀ (f:Nat) (gone:List OutR) (x:B_),StOk x->(∀ g∈gone,MlOk g.mail)->gone.length+nik x.x.stock<=512->nik x.x.stock<f->Cl B K M x->Cl B K M (Bu_ t f gone x).1
  |0,_,_,_,_,_,h,_=>by omega
  |f+1,gone,x,h,hg,hl,hf,hs=>by
    unfold Bu_ lt
    let Q:B_×X_->Prop:=fun r=>Cl B K M r.1
    refine bt (P:=Q) (fun _=>Ux_ C h ⟨by omega,hg⟩ hs) fun e=>?_
    have e':(L_ x.x.stock t).2.2=true:=by simpa using e
    have hr:=H9_ (n:=(L_ x.x.stock t).1) (id:=(L_ x.x.stock t).2.1.id) h.stk
    refine late_c0 f _ _ (At_ h hr.1) (fun g q=>?_) (Vw_ h.stk rfl e' rfl hl) (Vx_ h.stk rfl e' rfl hf) (hs.stock (C.kr hs.2.1))
    rcases List.mem_append.1 q with q|q
    · exact hg g q
    · rw[List.mem_singleton.1 q];exact Q7_ h.stk
theorem late_c {t:Int} (h:StOk s) (hs:Cl B K M s):Cl B K M (Dv_ s t).1:=
  late_c0 C _ [] s h (fun _ h=>by cases h) (by have :=nik_r h.stk;simpa using this) (Nat.lt_succ_self _) hs
theorem put_c (h:StOk s) (h0:0<=d.mail.hops) (hs:Cl B K M s):Cl B K M (Ce_ s d).1:=by
  unfold Ce_ lt
  let Q:B_×X_×Int->Prop:=fun r=>Cl B K M r.1
  have h1:=Js_ (s:=s) (m:=D_ d.mail) (tick:=d.tick) h h0
  have hl:=J1_ (s:=s) (m:=D_ d.mail) (tick:=d.tick) h
  exact bt (P:=Q) (fun _=>hs) fun _=>Ux_ C h1.1 ⟨by omega,h1.2.1⟩ (send_c C h hs h0)
theorem queues_c (hs:Cl B K M s):Cl B K M (Az_ s d).1:=by
  unfold Az_ lt
  let Q:B_×Int->Prop:=fun r=>Cl B K M r.1
  refine bt (P:=Q) (fun _=>hs.stock (C.km hs.2.1)) fun _=>?_
  exact bt (P:=Q) (fun _=>⟨C.fg hs.1,C.kd hs.2.1,hs.2.2⟩) fun _=>hs.stock (C.kd hs.2.1)
theorem lend_c (hs:Cl B K M s):Cl B K M (Bm_ s d).1:=by
  unfold Bm_ lt
  let Q:B_×X_×Int->Prop:=fun r=>Cl B K M r.1
  refine bt (P:=Q) (fun _=>hs) fun _=>?_
  exact bt (P:=Q) (fun _=>hs) fun _=>hs.stock (C.kl hs.2.1)
theorem shops_c (hq:0<=d.shop.sort) (hw:∀ p∈d.bind.want,p.wf) (hs:Cl B K M s):Cl B K M (Bb_ s d).1:=by
  unfold Bb_ lt
  let Q:B_×Int->Prop:=fun r=>Cl B K M r.1
  have hn:∀ e,Q (s,e):=fun e=>hs
  have hb:∀ {b e},B b->Q (⟨⟨b,s.x.stock,s.x.notes,s.x.seen,s.x.spent⟩,s.policy,s.place⟩,e):=fun h=>⟨h,hs.2⟩
  refine bt (P:=Q) (fun _=>?_) fun _=>?_
  · refine lp0E (P:=Q) (fun _=>True) ?_ fun _=>hb (C.ma hq hs.1)
    refine bt (P:=LoP _ _) (fun _=>?_) fun _=>trivial
    refine bt (P:=LoP _ _) (fun _=>hn _) fun _=>?_
    exact bt (P:=LoP _ _) (fun _=>hn _) fun _=>trivial
  · refine bt (P:=Q) (fun _=>hb (C.dp hs.1)) fun _=>?_
    refine bt (P:=Q) (fun _=>hb (C.ub hs.1)) fun _=>?_
    refine lp0E (P:=Q) (fun _=>True) ?_ fun _=>hb (C.bd hw hs.1)
    refine lt1E (P:=LoP _ _) (fun _=>True) trivial fun v _=>?_
    refine bt (P:=LoP _ _) (fun _=>hn _) fun _=>?_
    exact bt (P:=LoP _ _) (fun _=>hn _) fun _=>trivial
theorem pull_c (h:StOk s) (hs:Cl B K M s):Cl B K M (Bx_ s d).1:=by
  unfold Bx_ lt
  let Q:B_×X_×Int->Prop:=fun r=>Cl B K M r.1
  refine bt (P:=Q) (fun _=>hs) fun _=>bt (P:=Q) (fun _=>hs) fun _=>bt (P:=Q) (fun _=>hs) fun _=>?_
  let I:B_->Prop:=fun x=>StOk x/\Cl B K M x
  have h2:Cl B K M (⟨(⟨s.x.book,s.x.stock,s.x.notes,(A16.set s.x.seen d.number ((d.frm).toNat)),s.x.spent⟩:W_),s.policy,s.place⟩:B_):=hs
  refine lt1E (P:=Q) I ?_ fun x hx=>?_
  · exact bt (P:=I) (fun _=>⟨(Ik_ (B2_ h)).1,Cl.note C h2 (by decide)⟩) fun _=>⟨B2_ h,h2⟩
  · refine bt (P:=Q) (fun _=>Cl.note C hx.2 (by decide)) fun _=>?_
    have h1:=Js_ (s:=x) (m:=⟨(D_ d.mail).id,(D_ d.mail).shop,(D_ d.mail).key,(D_ d.mail).head,(D_ d.mail).body,(D_ d.mail).due,IntKind.wrap .u8 ((D_ d.mail).hops+1)⟩) (tick:=d.tick) hx.1 (I1_ _)
    have hl:=J1_ (s:=x) (m:=⟨(D_ d.mail).id,(D_ d.mail).shop,(D_ d.mail).key,(D_ d.mail).head,(D_ d.mail).body,(D_ d.mail).due,IntKind.wrap .u8 ((D_ d.mail).hops+1)⟩) (tick:=d.tick) hx.1
    exact Ux_ C h1.1 ⟨by omega,h1.2.1⟩ (send_c C hx.1 hx.2 (I1_ _))
theorem do_c (hc:0<=d.code/\d.code<=255) (h:StOk s) (h0:0<=d.mail.hops) (hq:0<=d.shop.sort) (hw:∀ p∈d.bind.want,p.wf) (hs:Cl B K M s):Cl B K M (Aj_ s d).1:=by
  unfold Aj_ lt
  let Q:B_×X_×Int->Prop:=fun r=>Cl B K M r.1
  refine bt (P:=Q) (fun e=>hs) fun _=>?_
  let I:Int×B_×X_->Prop:=fun r=>Cl B K M r.2.1
  refine lt3E (P:=Q) I ?_ fun a b c hb=>bt (P:=Q) (fun e=>hs) fun e=>hb
  refine lt1E (P:=I) (fun v:Bool=>True) trivial fun v hv=>?_
  refine bt (P:=I) (fun e=>queues_c C hs) fun _=>bt (P:=I) (fun e=>put_c C h h0 hs) fun _=>bt (P:=I) (fun e=>lend_c C hs) fun _=>bt (P:=I) (fun e=>settle_c C h hs) fun _=>bt (P:=I) (fun e=>late_c C h hs) fun _=>bt (P:=I) (fun e=>pull_c C h hs) fun _=>?_
  refine bt (P:=I) (fun _=>Cl.note C (s:=⟨⟨s.x.book,C7_ s.x.stock,s.x.notes,s.x.seen,s.x.spent⟩,s.policy,s.place⟩) (hs.stock (C.kw h.stk hs.2.1)) (by decide)) fun _=>bt (P:=I) (fun _=>⟨hs.1,hs.2.1,C.na hc hs.2.2⟩) fun _=>shops_c C hq hw hs
end
end
def BiB (y:BindR):Prop:=y.shop.length<=16/\Ee_ y.to'=0/\y.key.length<=64/\Fo_ y.want=0/\∀ p∈y.want,p.wf
def BkB (b:BookR):Prop:=(∀ s∈b.shops,Pf_ s=0/\0<=s.sort)/\∀ y∈b.binds,BiB y
def RoB (k:E_):Prop:=∀ r∈k.rows,D6_ r.q=0
def NoB (n:B7_):Prop:=∀ x∈n.kept,x.text.length<=64/\0<=x.kind/\x.kind<=255
theorem Kg_ {s:Bs} (h:Ee_ s=0):s.length<=16:=by
  unfold Ee_ at h
  split at h
  · cases h
  · split at h
    · cases h
    · omega
theorem keyE_len {l:List Bs} {s:Bs} (h:keyE l s=0):s.length<=64:=by
  unfold keyE at h
  split at h
  · cases h
  · omega
theorem shopE_f {x:ShopR} (h:Pf_ x=0):x.name.length<=16/\x.to'.length<=16/\x.sort<=4:=by
  unfold Pf_ at h
  split at h
  · rename_i q;exact (q h).elim
  · rename_i q
    split at h
    · cases h
    · refine⟨Kg_ (by simpa using q),?_,by omega⟩
      split at h
      · exact Kg_ h
      · split at h
        · cases h
        · rename_i q2;rw[show x.to'=[] by simpa using q2];simp
theorem qcheck_f {q:QueueR} (h:D6_ q=0):q.name.length<=16/\q.dead.length<=16/\1<=q.most/\q.most<=64:=by
  unfold D6_ at h
  by_cases q1:Ee_ q.name=0
  · rw[decide_eq_true q1] at h
    simp only[Bool.not_true,cond_false] at h
    cases e:(decide (q.most<1) || decide (64<q.most)) with
    |true=>rw[e] at h;cases h
    |false=>
      rw[e] at h
      simp only[cond_false] at h
      simp only[Bool.or_eq_false_iff,decide_eq_false_iff_not] at e
      refine⟨Kg_ q1,?_,by omega,by omega⟩
      by_cases q2:q.dead=[]
      · rw[q2];simp
      · rw[decide_eq_false q2] at h;exact Kg_ h
  · rw[decide_eq_false q1] at h;exact (q1 h).elim
theorem X6_ {α:Type} {l:List α} {a b:Nat} {x:α} (h:x∈[l.take a,l.drop b].flatten):x∈l:=by
  simp only[List.flatten_cons,List.flatten_nil,List.append_nil,List.mem_append] at h
  rcases h with h|h
  · exact List.mem_of_mem_take h
  · exact List.mem_of_mem_drop h
theorem N2_ {α:Type} {l:List α} {y x:α} (h:x∈[l,[y]].flatten):x∈l\/x=y:=by
  simpa using h
theorem Q6_ (f:BindR->Bool):∀ (t out:List BindR) (y:BindR),y∈Aw_ f t out->y∈out\/y∈t
  |[],out,y,h=> .inl h
  |x::t,out,y,h=>by
    unfold Aw_ at h
    cases e:f x with
    |true=>
      rw[e] at h
      rcases Q6_ f t _ y h with q|q
      · rcases List.mem_append.1 q with q|q
        · exact .inl q
        · exact .inr (by rw[List.mem_singleton.1 q];simp)
      · exact .inr (by simp[q])
    |false=>
      rw[e] at h
      rcases Q6_ f t _ y h with q|q
      · exact .inl q
      · exact .inr (by simp[q])
theorem ruleE_f {r:Rule} (h:Ti_ r=0):r.key.length<=64/\Fo_ r.want=0:=by
  unfold Ti_ at h
  split at h
  · cases h
  · split at h
    · split at h
      · rename_i q;exact (q h).elim
      · rename_i q;exact⟨keyE_len (by simpa using q),h⟩
    · split at h
      · rename_i q;exact (q h).elim
      · rename_i q;exact⟨keyE_len (by simpa using q),h⟩
theorem shopOf_mem {l:List ShopR} {n:Bs} (h:(F2_ l n).isSome=true):∃ s∈l,s.name=n:=by
  obtain⟨s,hs⟩:=Option.isSome_iff_exists.1 h
  exact⟨s,List.mem_of_find?_eq_some hs,by simpa using List.find?_some hs⟩
theorem Pc_ {s:E_} {k:Int} {l:LineR} (h:RoB s):RoB (Z_ s k l):=fun r hr=>by
  have hr:r∈s.rows.set k.toNat ⟨(gt s.rows k.toNat).q,l⟩:=hr
  by_cases q:k.toNat<s.rows.length
  · rcases List.mem_or_eq_of_mem_set hr with e|e
    · exact h r e
    · rw[e];exact h (gt s.rows k.toNat) (List.mem_of_getElem? (getG q))
  · rw[List.set_eq_of_length_le (by omega)] at hr;exact h r hr
theorem rob_wake:∀ (t:List RowR) (k:Nat) (x:E_),RoB x->RoB (Bh_ t k x)
  |[],_,_,h=>h
  |_::t,k,_,h=>rob_wake t (k+1) _ (Pc_ h)
theorem cloB:Clo BkB RoB NoB where
  ma:=fun {b x} hq h=>by
    unfold B0_
    let Q:BookR×Int->Prop:=fun r=>BkB r.1
    refine bt (P:=Q) (fun _=>h) fun e=>bt (P:=Q) (fun _=>h) fun _=>bt (P:=Q) (fun _=>h) fun _=>bt (P:=Q) (fun _=>h) fun _=>⟨fun s hs=>?_,h.2⟩
    rcases N2_ hs with q|q
    · exact h.1 s q
    · rw[q];exact⟨by simpa using e,hq⟩
  bd:=fun {b x} hw h=>by
    unfold As_ lt
    let Q:BookR×Int->Prop:=fun r=>BkB r.1
    refine bt (P:=Q) (fun _=>h) fun e1=>bt (P:=Q) (fun _=>h) fun _=>bt (P:=Q) (fun _=>h) fun e2=>bt (P:=Q) (fun _=>h) fun e3=>bt (P:=Q) (fun _=>h) fun _=>bt (P:=Q) (fun _=>h) fun _=>⟨h.1,fun y hy=>?_⟩
    rcases N2_ hy with q|q
    · exact h.2 y q
    · rw[q]
      obtain⟨s,hs,hn⟩:=shopOf_mem (by simpa using e1)
      have hr:=ruleE_f (by simpa using e3)
      exact⟨by rw[<- hn];exact (shopE_f (h.1 s hs).1).1,by simpa using e2,hr.1,hr.2,hw⟩
  dp:=fun {b n} h=>by
    unfold Dn_ lt
    let Q:BookR×Int->Prop:=fun r=>BkB r.1
    refine bt (P:=Q) (fun _=>h) fun _=>⟨fun s hs=>h.1 s (X6_ hs),fun y hy=>?_⟩
    rcases Q6_ _ _ _ y hy with q|q
    · cases q
    · exact h.2 y q
  ub:=fun {b x} h=>by
    unfold Cv_ lt
    let Q:BookR×Int->Prop:=fun r=>BkB r.1
    exact bt (P:=Q) (fun _=>h) fun _=>⟨h.1,fun y hy=>h.2 y (X6_ hy)⟩
  fg:=fun {b q} h=>⟨h.1,fun y hy=>by
    rcases Q6_ _ _ _ y hy with q|q
    · cases q
    · exact h.2 y q⟩
  km:=fun {k q} h=>by
    unfold Bw_ lt
    let Q:E_×Int->Prop:=fun r=>RoB r.1
    refine bt (P:=Q) (fun _=>h) fun e=>bt (P:=Q) (fun _=>h) fun _=>bt (P:=Q) (fun _=>h) fun _=>bt (P:=Q) (fun _=>h) fun _=>fun r hr=>?_
    rcases N2_ hr with q|q
    · exact h r q
    · rw[q];simpa using e
  kd:=fun {k n} h=>by
    unfold Cd_ lt
    let Q:E_×Int->Prop:=fun r=>RoB r.1
    exact bt (P:=Q) (fun _=>h) fun _=>fun r hr=>h r (X6_ hr)
  kp:=fun {k n m} _ h=>by
    unfold Ac_ lt
    let Q:E_×Int×Mail×Int->Prop:=fun r=>RoB r.1
    refine bt (P:=Q) (fun _=>h) fun _=>bt (P:=Q) (fun _=>h) fun _=>bt (P:=Q) (fun _=>h) fun _=>?_
    refine lp2E (P:=Q) (fun _=>True) ?_ fun x x1 _=>?_
    · exact bt (P:=LoP _ _) (fun _=>bt (P:=LoP _ _) (fun _=>h) fun _=>trivial) fun _=>trivial
    · exact bt (P:=Q) (fun _=>h) fun _=>bt (P:=Q) (fun _=>h) fun _=>fun r hr=>Pc_ (k:=K_ k n) h r hr
  kl:=fun {k n} h=>by
    unfold Bl_ lt
    let Q:E_×ItemR×Bool->Prop:=fun r=>RoB r.1
    exact bt (P:=Q) (fun _=>h) fun _=>Pc_ h
  kr:=fun {k n i} h=>by
    unfold T_ lt
    let Q:E_×ItemR×Int->Prop:=fun r=>RoB r.1
    exact bt (P:=Q) (fun _=>h) fun _=>Pc_ h
  kb:=fun {k n i} h=>by
    unfold Cc_ lt
    let Q:E_×Int->Prop:=fun r=>RoB r.1
    exact bt (P:=Q) (fun _=>h) fun _=>Pc_ h
  ks:=fun {k p m} h=>by
    unfold Ay_ lt
    let Q:E_×Int->Prop:=fun r=>RoB r.1
    exact bt (P:=Q) (fun _=>h) fun _=>bt (P:=Q) (fun _=>h) fun _=>bt (P:=Q) (fun _=>h) fun _=>h
  kw:=fun {k} _ h=>rob_wake _ _ _ h
  na:=fun {n x} hk h=>by
    unfold B9_
    let Q:B7_×Int->Prop:=fun r=>NoB r.1
    refine bt (P:=Q) (fun _=>h) fun e=>bt (P:=Q) (fun _=>h) fun _=>fun y hy=>?_
    simp only[decide_eq_false_iff_not] at e
    rcases N2_ (List.mem_of_mem_drop hy) with q|q
    · exact h y q
    · rw[q];exact⟨by omega,hk⟩
def StB (s:B_):Prop:=Cl BkB RoB NoB s
theorem doB {s:B_} {d:DeedR} (hc:0<=d.code/\d.code<=255) (h:StOk s) (h0:0<=d.mail.hops) (hq:0<=d.shop.sort) (hw:∀ p∈d.bind.want,p.wf) (hs:StB s):StB (Aj_ s d).1:=do_c cloB hc h h0 hq hw hs
theorem newB (p:PolicyR) (k:Int):StB (Cx_ p k):=⟨⟨(fun _ h=>by cases h),fun _ h=>by cases h⟩,(fun _ h=>by cases h),fun _ h=>by cases h⟩
theorem Jr_ (t words:List Bs):(A0_ t words).length=t.length+1:=by simp[A0_]
theorem P5_ (a:LabelR):∀ (f v:Nat) (s:Bs),s.length<=21+22*v->v<=32->(Dk_ a f s v).length<=725
  |0,_,_,_,_=>by show ([]:Bs).length<=725;simp
  |f+1,v,s,hs,hv=>by
    unfold Dk_
    let Q:Bs->Prop:=fun r=>r.length<=725
    refine bt (P:=Q) (fun e=>?_) fun _=>by show s.length<=725;omega
    have hv':v<32:=by have :=of_decide_eq_true e;omega
    refine bt (P:=Q) (fun _=>P5_ a f (v+1) _ ?_ (by omega)) fun _=>P5_ a f (v+1) _ (by omega) (by omega)
    have :=Gy_ (v:Int)
    simp only[List.length_append,List.length_cons,List.length_nil];omega
theorem ltext_len (a:LabelR):(Ec_ a).length<=725:=P5_ a _ 0 _ (by have :=Gy_ a.level;omega) (by decide)
theorem rwhat_len (k:Int):(Gh_ k).length<=20:=by
  unfold Gh_ lt
  let Q:Bs->Prop:=fun r=>r.length<=20
  refine bt (P:=Q) (fun e1=>bt (P:=Q) (fun e=>?_) fun _=>I5_ k) fun _=>I5_ k
  have h1:(k-1).toNat<6:=by
    have :=of_decide_eq_true e
    have :=of_decide_eq_true e1
    simp only[List.length_cons,List.length_nil] at *
    omega
  have key:∀ n,n<6->(gt [[108,111,115,116],[114,101,108,101,97,115,101,100],[119,111,107,101,110],[114,101,102,117,115,101,100],[98,101,103,117,110],[111,118,101,114]] n:Bs).length<=20:=by decide +kernel
  exact key _ h1
theorem Qc_ (p:PolicyR) (k:Int) (h:p.places.length<=100000/\0<=k/\∀ y∈p.places,y.name.length<=300):(Bs_ p k).length<=300:=by
  unfold Bs_
  let Q:Bs->Prop:=fun r=>r.length<=300
  refine bt (P:=Q) (fun e=>h.2.2 _ (Ij_ ?_)) fun _=>Nat.le_trans (Gy_ k) (by decide)
  have :=of_decide_eq_true e
  omega
def RpOk (p:PolicyR) (place:Int) (x:W_):Prop:=PoOk p/\(0<=place/\place<p.places.length)/\(∀ y∈p.places,y.name.length<=300)/\PrOk x/\BkB x.book/\RoB x.stock/\NoB x.notes
def RpP (p:PolicyR):Prop:=p.places.length<=100000/\∀ y∈p.places,y.name.length<=300
theorem Tb_:∀ (l:List RowR) (out:List QueueR) (q:QueueR),q∈Ad_ l out->q∈out\/∃ r∈l,r.q=q
  |[],out,q,h=> .inl h
  |x::t,out,q,h=>by
    rcases Tb_ t _ q h with h|⟨r,hr,e⟩
    · rcases List.mem_append.1 h with h|h
      · exact .inl h
      · exact .inr ⟨x,by simp,(List.mem_singleton.1 h).symm⟩
    · exact .inr ⟨r,by simp[hr],e⟩
theorem queues_f {s:E_} (h:RoB s) {q:QueueR} (hq:q∈Ax_ s):q.name.length<=16/\q.dead.length<=16/\1<=q.most/\q.most<=64:=by
  rcases Tb_ s.rows [] q hq with h1|⟨r,hr,e⟩
  · cases h1
  · rw[<- e];exact qcheck_f (h r hr)
theorem Wl_:∀ (l out:List BindR),Bt_ l out=out++l
  |[],out=>by simp[Bt_]
  |x::t,out=>by unfold Bt_;rw[Wl_ t];simp
theorem Lw_ (b:BookR):Em_ b=b.binds:=by unfold Em_;rw[Wl_];rfl
theorem llen_eq (l:LineR):Bp_ l=(l.items.length:Int):=rfl
theorem Wa_ {s:E_} {k:Int} (h:StkOk s):RiOk (Bd_ s k):=by
  unfold Bd_
  refine bt (P:=RiOk) (fun _=>V9_) fun e=>?_
  simp only[Bool.or_eq_false_iff,decide_eq_false_iff_not] at e
  exact h.2.1 _ (by omega)
theorem Re_ (b:BookR):Fm_ b=b.shops:=rfl
theorem Mj_ {h:List Pair} (e:Fo_ h=0):h.length<=8:=by
  unfold Fo_ at e
  split at e
  · cases e
  · omega
theorem bk_want {b:BookR} (h:BkOk b) (k:BkB b):b.binds.length<=1000/\∀ y∈b.binds,y.want.length<=1000:=
  ⟨by have :=h.2.1;omega,fun y hy=>by have :=Mj_ (k.2 y hy).2.2.2.1;omega⟩
def Hc_ (n:NoteR):Bs:=
 (joinB [[110,111,116,101],(Aq_ n.tick),(Gh_ n.kind),(A5_ n.text)] [32])
def C3_:List BindR->List Bs->List Bs
  |[],l1=>l1
  | x1::t1,l1=>(lt1 ((bif x1.up then
 [117,112]
 else [113,117,101,117,101])) (fun to_=>
 (lt1 ((bif x1.all then
 [97,108,108]
 else [97,110,121])) (fun all=>
 lt (A0_ l1 [[98,105,110,100],x1.shop,x1.to',to_,(A5_ (x1.key)),all,itoB ((x1.want).length:Int)]) fun r3=>
 C3_ t1 r3))))
def Ch_ (x:W_):List ShopR->List Bs->List Bs
  |[],l=>lt (Em_ x.book) fun r2=>
 C3_ r2 l
  |x2::t2,l=>lt (A0_ l [[115,104,111,112],x2.name,(gt [[100,105,114,101,99,116],[102,97,110,111,117,116],[116,111,112,105,99],[104,101,97,100,115],[114,101,108,101,97,115,101]] ((x2.sort).toNat)),(A5_ (x2.to'))]) fun r1=>
 Ch_ x t2 r1
def Gk_ (t:List Bs) (x:W_):List Bs:=
 lt (Fm_ x.book) fun r=>
 Ch_ x r t
def Do_ (p:PolicyR) (x:W_):Nat->Nat->List Bs->List Bs
  |0,_,_=>default
  | f2+1,v,l1=>(bif decide ((v:Int)<16) then
 lt (Bd_ x.stock (v:Int)) fun r3=>
 lt (Cb_ r3) fun r4=>
 (bif decide (0<r4) then
 lt (Ea_ r3) fun r5=>
 lt (A0_ l1 [[114,105,115,101],(Bs_ p (v:Int)),(Aq_ (Cb_ r3)),itoB (r5.length:Int)]) fun r6=>
 Do_ p x f2 (v+1) r6
 else Do_ p x f2 (v+1) l1)
 else l1)
def Cr_ (p:PolicyR) (x:W_):List QueueR->List Bs->List Bs
  |[],l=>Do_ p x (16-0+1) 0 l
  |x1::t1,l=>lt (Ap_ x.stock (x1.name)) fun r1=>
 lt (A0_ l [[113,117,101,117,101],x1.name,itoB (Bp_ r1),(Aq_ (x1.most)),itoB ((Bp_ r1)-(Bq_ r1)),(A5_ (x1.dead))]) fun r2=>
 Cr_ p x t1 r2
def F4_ (t:List Bs) (p:PolicyR) (x:W_):List Bs:=
 lt (Ax_ x.stock) fun r=>
 Cr_ p x r t
theorem Ur_:∀ (l:List BindR) (t:List Bs),(C3_ l t).length=t.length+l.length
  |[],t=>rfl
  |x::r,t=>by
    unfold C3_ lt lt1
    rw[Ur_ r,Jr_];simp only[List.length_cons];omega
theorem Uq_ (x:W_):∀ (l:List ShopR) (t:List Bs),(Ch_ x l t).length=t.length+l.length+x.book.binds.length
  |[],t=>by unfold Ch_ lt;rw[Ur_,Lw_];rfl
  |y::r,t=>by
    unfold Ch_ lt
    rw[Uq_ x r,Jr_];simp only[List.length_cons];omega
theorem tbook_len {t:List Bs} {x:W_} (h:BkOk x.book):(Gk_ t x).length<=t.length+40:=by
  unfold Gk_ lt Fm_
  rw[Uq_]
  have :=h.1;have :=h.2.1
  omega
theorem Oi_ (p:PolicyR) (x:W_):∀ (f v:Nat) (t:List Bs),v<=16->16-v<f->(Do_ p x f v t).length<=t.length+(16-v)
  |0,_,_,_,h=>by omega
  |f+1,v,t,hv,hf=>by
    unfold Do_ lt
    let Q:List Bs->Prop:=fun r=>r.length<=t.length+(16-v)
    refine bt (P:=Q) (fun e=>?_) fun _=>by show t.length<=t.length+(16-v);omega
    have hv':v<16:=by have :=of_decide_eq_true e;omega
    refine bt (P:=Q) (fun _=>?_) fun _=>?_
    · have :=Oi_ p x f (v+1) (A0_ t [[114,105,115,101],(Bs_ p (v:Int)),(Aq_ (Cb_ (Bd_ x.stock (v:Int)))),itoB ((Ea_ (Bd_ x.stock (v:Int))).length:Int)]) (by omega) (by omega)
      rw[Jr_] at this
      exact Nat.le_trans this (by omega)
    · exact Nat.le_trans (Oi_ p x f (v+1) t (by omega) (by omega)) (by omega)
theorem Tp_ (p:PolicyR) (x:W_):∀ (l:List QueueR) (t:List Bs),(Cr_ p x l t).length<=t.length+l.length+16
  |[],t=>Oi_ p x _ 0 t (by decide) (by decide)
  |y::r,t=>by
    unfold Cr_ lt
    refine Nat.le_trans (Tp_ p x r _) ?_
    rw[Jr_];simp only[List.length_cons];omega
theorem tstock_len {t:List Bs} {p:PolicyR} {x:W_} (h:StkOk x.stock):(F4_ t p x).length<=t.length+24:=by
  unfold F4_ lt
  have h1:=Nh_ h
  exact Nat.le_trans (Tp_ p x (Ax_ x.stock) t) (by omega)
theorem P7_ (n:B7_):E8_ n=n.kept:=rfl
def Dm_:List NoteR->List Bs->(List Bs)
  |[],l2=>l2
  |x1::t,l2=>Dm_ t (l2++[(Hc_ x1)])
def Fe_ (p:PolicyR) (place:Int) (x:W_):Nat->Nat->List Bs->(List Bs)
  |0,_,_=>default
  | f4+1,v1,l1=>(bif decide ((v1:Int)<8) then
 (bif (((decide (0<((A8.get x.spent v1).count)))&&(decide ((v1:Int)<(p.grants.length:Int))))&&(decide (((gt p.grants v1).frm)=place))) then
 lt (A0_ l1 [[115,112,101,110,116],(Bs_ p ((gt p.grants v1).to')),(Aq_ ((A8.get x.spent v1).round)),itoB ((A8.get x.spent v1).count)]) fun r6=>
 Fe_ p place x f4 (v1+1) r6
 else Fe_ p place x f4 (v1+1) l1)
 else lt (E2_ x.notes) fun r7=>
 lt (Aq_ r7) fun r8=>
 lt (A0_ l1 [[110,111,116,101,115],r8]) fun r9=>
 lt (E8_ x.notes) fun r10=>
 Dm_ r10 r9)
def Fd_ (p:PolicyR) (place:Int) (x:W_):Nat->Nat->List Bs->(List Bs)
  |0,_,_=>default
  | f5+1,v,l=>(bif decide ((v:Int)<16) then
 (bif decide (0<(A16.get x.seen v)) then
 lt (Bs_ p (v:Int)) fun r3=>
 lt (Aq_ (A16.get x.seen v)) fun r4=>
 lt (A0_ l [[115,101,101,110],r3,r4]) fun r5=>
 Fd_ p place x f5 (v+1) r5
 else Fd_ p place x f5 (v+1) l)
 else Fe_ p place x (8-0+1) 0 l)
def E1_ (p:PolicyR) (place:Int) (x:W_):(List Bs):=
 lt (A0_ [] [[112,108,97,99,101],(gt p.places ((place).toNat)).name,(Ec_ ((gt p.places ((place).toNat)).label)),itoB (M_ x.stock),itoB ((gt p.places ((place).toNat)).bytes)]) fun r=>
 lt (Gk_ r x) fun r1=>
 lt (F4_ r1 p x) fun r2=>
 Fd_ p place x (16-0+1) 0 r2
def C1_ (kind:Int) (text:Bs):List NoteR->Int->Int
  |[],n=>n
  | x1::t,n=>(bif ((decide ((x1.kind)=kind))&&(decide ((x1.text)=text))) then
 C1_ kind text t (n+1)
 else C1_ kind text t n)
def Id_ (x:W_) (kind:Int) (text:Bs):Int:=
 lt (E8_ x.notes) fun r=>
 C1_ kind text r 0
theorem dig_one:∀ n:Nat,n<10->((([48,49,50,51,52,53,54,55,56,57]:Bs).drop n).take (n+1-n))=[UInt8.ofNat (48+n)]:=by decide +kernel
theorem dig_lo {n:Int} (h0:0<=n) (h1:n<10):PV.str ((([48,49,50,51,52,53,54,55,56,57]:Bs).drop n.toNat).take ((IntKind.wrap .u64 (n+1)).toNat-n.toNat))=PV.str (decB n):=by
  have e:(IntKind.wrap .u64 (n+1)).toNat=n.toNat+1:=by rw[IntKind.wrap_u64];omega
  rw[e,dig_one _ (by omega),Pp_ h0 h1]
theorem dig_hi {n:Int} (h0:10<=n) (h1:n<=18446744073709551615):PV.str (decB (n/10)++decB (n%10))=PV.str (decB n):=by rw[decB_big h0 h1]
def Ml_:Bool:=
 (Ow_)
def Gg_ (s:Bs):Bs:=
 (bif decide (s=[]) then
 [46]
 else s)
def Df_ (n:Int):Bs:=
 (decB (IntKind.wrap .u64 n))
def K8_ (kind:Int):Bs:=
 (bif decide (kind=1) then
 [108,111,115,116]
 else (bif decide (kind=2) then
 [114,101,108,101,97,115,101,100]
 else (bif decide (kind=3) then
 [119,111,107,101,110]
 else (bif decide (kind=4) then
 [114,101,102,117,115,101,100]
 else (bif decide (kind=5) then
 [98,101,103,117,110]
 else (bif decide (kind=6) then
 [111,118,101,114]
 else lt (Df_ kind) fun r=>
 r))))))
theorem Kj_ (s:Bs):(Gg_ s).length<=s.length+1:=M2_ s
theorem Z5_ (k:Int):(K8_ k).length<=20:=by
  unfold K8_ lt
  let Q:Bs->Prop:=fun r=>r.length<=20
  refine bt (P:=Q) (fun _=>(by decide :([108,111,115,116]:Bs).length<=20)) fun _=>bt (P:=Q) (fun _=>(by decide :([114,101,108,101,97,115,101,100]:Bs).length<=20)) fun _=>bt (P:=Q) (fun _=>(by decide :([119,111,107,101,110]:Bs).length<=20)) fun _=>bt (P:=Q) (fun _=>(by decide :([114,101,102,117,115,101,100]:Bs).length<=20)) fun _=>bt (P:=Q) (fun _=>(by decide :([98,101,103,117,110]:Bs).length<=20)) fun _=>bt (P:=Q) (fun _=>(by decide :([111,118,101,114]:Bs).length<=20)) fun _=>?_
  exact De_ _
theorem rp_new {p:PolicyR} {k:Int} (hp:PoOk p) (hk:0<=k/\k<p.places.length) (hn:∀ y∈p.places,y.name.length<=300):RpOk p k (O_ (Cx_ p k)):=
  ⟨hp,hk,hn,(X8_ hp hk).1,(newB p k).1,(newB p k).2.1,(newB p k).2.2⟩
theorem rp_one {p:PolicyR} {k:Int} {r:B_} {x:W_} (h1:r=Cx_ p k) (h2:x=O_ r) (hp:PoOk p) (hk:0<=k/\k<p.places.length) (hn:∀ y∈p.places,y.name.length<=300):RpOk p k x:=by subst h2;subst h1;exact rp_new hp hk hn
theorem dig_lo3 {n:Int} (h0:0<=n) (h1:n<10):PV.str ((([48,49,50,51,52,53,54,55,56,57]:Bs).drop n.toNat).take ((n+1).toNat-n.toNat))=PV.str (decB n):=by
  have e:(n+1).toNat=n.toNat+1:=by omega
  rw[e,dig_one _ (by omega),Pp_ h0 h1]
def Ox_:Bool:=
 lt (Cx_ (⟨4,1,[(⟨[108,111,119],(⟨0,0⟩:LabelR),500,1⟩:PlaceR)],[0],[]⟩:PolicyR) 0) fun r=>
 lt (O_ r) fun r1=>
 lt (E1_ (⟨4,1,[(⟨[108,111,119],(⟨0,0⟩:LabelR),500,1⟩:PlaceR)],[0],[]⟩:PolicyR) 0 r1) fun r2=>
 (bif ((Lk_)&&(Ml_)) then
 (decide (r2=[[112,108,97,99,101,32,108,111,119,32,48,32,48,32,53,48,48],[110,111,116,101,115,32,48]]))
 else false)
def Pb_ (n:NoteR):Bs:=
 ((((([110,111,116,101,32]++(decB n.tick))++[32])++(K8_ n.kind))++[32])++(Gg_ n.text))
def H3_ (m:Mail):Int:=
 (bif !decide ((E7_ m)=0) then
 0
 else ((V4_ m).length:Int))
def Cy_:List ItemR->Int->Int
  |[],n=>n
  | x::t,n=>(bif !(x.lent) then
 Cy_ t (n+1)
 else Cy_ t n)
def Gr_ (l:List ItemR):Int:=
 Cy_ l 0
def Eo_ (p:PolicyR) (k:Int):Bs:=
 (bif decide (k<(p.places.length:Int)) then
 ((gt p.places ((k).toNat)).name)
 else lt (Df_ k) fun r=>
 r)
def Hv_:List ItemR->List ItemR->(List ItemR)
  |[],out=>out
  |x::t,out=>Hv_ t (out++[x])
def Qm_ (l:LineR):(List ItemR):=
 lt (Fr_ l) fun r=>
 Hv_ r []
def Sm_ (x:RiseR):RiseR:=
 lt (Ea_ x) fun r=>
 (⟨(Cb_ x),r⟩:RiseR)
def Hw_:List NoteR->Int->List NoteR->B7_
  |[],total,kept=>(⟨total,kept⟩:B7_)
  |x::t,total,kept=>Hw_ t total (kept++[x])
def Or_ (n:B7_):B7_:=
 lt (E2_ n) fun r=>
 lt (E8_ n) fun r1=>
 Hw_ r1 r []
def Hu_:List BindR->List ShopR->List BindR->BookR
  |[],shops1,binds1=>(⟨shops1,binds1⟩:BookR)
  |x::t,shops1,binds1=>Hu_ t shops1 (binds1++[x])
def Ht_ (b:BookR):List ShopR->List ShopR->List BindR->BookR
  |[],shops,binds=>lt (Em_ b) fun r1=>
 Hu_ r1 shops binds
  |x1::t1,shops,binds=>Ht_ b t1 (shops++[x1]) binds
def Nu_ (b:BookR):BookR:=
 lt (Fm_ b) fun r=>
 Ht_ b r [] []
theorem Pa_ (m:Mail):0<=H3_ m/\H3_ m<=20000:=by
  unfold H3_
  by_cases e:E7_ m=0
  · rw[decide_eq_true e]
    simp only[Bool.not_true,cond_false]
    obtain⟨mk1,mk2,mk3,mk4,mk5⟩:=G1_ e
    have hs:=Ph_ mk3
    have :=r9B_len hs
    have :=hs.1
    have :=Mj_ mk3
    have :(r9B m.head).length<=17000:=by omega
    simp only[V4_,List.length_append,Q_,L6_]
    omega
  · rw[decide_eq_false e];simp
theorem Td_:∀ (l:List ItemR) (n:Int),n<=Cy_ l n/\Cy_ l n<=n+l.length
  |[],n=>by simp[Cy_]
  |x::t,n=>by
    unfold Cy_
    have h1:=Td_ t n
    have h2:=Td_ t (n+1)
    cases e:!x.lent with
    |true=>simp only[cond_true,List.length_cons];omega
    |false=>simp only[cond_false,List.length_cons];omega
theorem r18rdy_b (l:List ItemR):0<=Gr_ l/\Gr_ l<=l.length:=by
  have :=Td_ l 0
  unfold Gr_
  omega
theorem Hl_ (n:Int):(Df_ n).length<=20:=De_ _
theorem Mx_ (p:PolicyR) (k:Int) (h:p.places.length<=100000/\0<=k/\∀ y∈p.places,y.name.length<=300):(Eo_ p k).length<=300:=by
  unfold Eo_ lt
  let Q:Bs->Prop:=fun r=>r.length<=300
  refine bt (P:=Q) (fun e=>h.2.2 _ (Ij_ ?_)) fun _=>Nat.le_trans (Hl_ k) (by decide)
  have :=of_decide_eq_true e
  omega
def D4_:List ItemR->Int->Int
  |[],n=>n
  |x::t,n=>lt (H3_ (x.mail)) fun r=>
 D4_ t (n+r)
def K6_ (l:List ItemR):Int:=
 D4_ l 0
def D5_:List Mail->Int->Int
  |[],n=>n
  |x1::t,n=>lt (H3_ x1) fun r=>
 D5_ t (n+r)
def K7_ (x:RiseR):Int:=
 D5_ x.kept 0
def Ge_ (a:LabelR):Nat->Bs->Nat->Bs
  |0,_,_=>default
  | f2+1,s,i=>(bif decide ((i:Int)<32) then
 (bif (N5_ a (i:Int)) then
 Ge_ a f2 ((s++[58])++(decB (i:Int))) (i+1)
 else Ge_ a f2 s (i+1))
 else s)
def J0_ (a:LabelR):Bs:=
 Ge_ a (32-0+1) (decB a.level) 0
def Ih_ (s:E_):Nat->Nat->Dw_->Dw_
  |0,_,_=>default
  | f2+1,v,x=>(bif decide ((v:Int)<16) then
 lt (Bd_ s (v:Int)) fun r3=>
 lt (Sm_ r3) fun r4=>
 Ih_ s f2 (v+1) (⟨x.next,x.most,x.rows,(A16.set x.rises r4 v)⟩:Dw_)
 else x)
def Gm_ (s:E_):List QueueR->List RRowR->Dw_
  |[],rows=>Ih_ s (16-0+1) 0 (⟨(Fn_ s),((M_ s)+(C6_ s)),rows,(⟨(⟨0,[]⟩:RiseR),(⟨0,[]⟩:RiseR),(⟨0,[]⟩:RiseR),(⟨0,[]⟩:RiseR),(⟨0,[]⟩:RiseR),(⟨0,[]⟩:RiseR),(⟨0,[]⟩:RiseR),(⟨0,[]⟩:RiseR),(⟨0,[]⟩:RiseR),(⟨0,[]⟩:RiseR),(⟨0,[]⟩:RiseR),(⟨0,[]⟩:RiseR),(⟨0,[]⟩:RiseR),(⟨0,[]⟩:RiseR),(⟨0,[]⟩:RiseR),(⟨0,[]⟩:RiseR)⟩:A16_RiseR)⟩:Dw_)
  |x1::t,rows=>lt (Ap_ s (x1.name)) fun r1=>
 lt (Qm_ r1) fun r2=>
 Gm_ s t (rows++[(⟨x1,r2⟩:RRowR)])
def Hx_ (s:E_):Dw_:=
 lt (Ax_ s) fun r=>
 Gm_ s r []
def L4_ (b:BindR):Bs:=
 (lt1 ((bif b.up then
 (((([98,105,110,100,32]++b.shop)++[32])++b.to')++[32,117,112,32])
 else (((([98,105,110,100,32]++b.shop)++[32])++b.to')++[32,113,117,101,117,101,32]))) (fun s=>
 lt (Gg_ b.key) fun r=>
 (lt1 ((bif b.all then
 ((s++r)++[32,97,108,108,32])
 else ((s++r)++[32,97,110,121,32]))) (fun s1=>
 lt (Df_ (b.want.length:Int)) fun r1=>
 (s1++r1)))))
theorem Yk_:∀ (l:List ItemR) (n:Int),n<=D4_ l n/\D4_ l n<=n+20000*l.length
  |[],n=>by simp[D4_]
  |x::t,n=>by
    unfold D4_ lt
    have h1:=Yk_ t (n+H3_ x.mail)
    have h2:=Pa_ x.mail
    simp only[List.length_cons];omega
theorem r18size_r (l:List ItemR):0<=K6_ l/\K6_ l<=20000*l.length:=by
  have :=Yk_ l 0
  unfold K6_;omega
theorem Yl_:∀ (l:List Mail) (n:Int),n<=D5_ l n/\D5_ l n<=n+20000*l.length
  |[],n=>by simp[D5_]
  |x::t,n=>by
    unfold D5_ lt
    have h1:=Yl_ t (n+H3_ x)
    have h2:=Pa_ x
    simp only[List.length_cons];omega
theorem r20size_r (x:RiseR):0<=K7_ x/\K7_ x<=20000*x.kept.length:=by
  have :=Yl_ x.kept 0
  unfold K7_;omega
theorem N6_ (a:LabelR):∀ (f v:Nat) (s:Bs),s.length<=21+22*v->v<=32->(Ge_ a f s v).length<=725
  |0,_,_,_,_=>by show ([]:Bs).length<=725;simp
  |f+1,v,s,hs,hv=>by
    unfold Ge_
    let Q:Bs->Prop:=fun r=>r.length<=725
    refine bt (P:=Q) (fun e=>?_) fun _=>by show s.length<=725;omega
    have hv':v<32:=by have :=of_decide_eq_true e;omega
    refine bt (P:=Q) (fun _=>N6_ a f (v+1) _ ?_ (by omega)) fun _=>N6_ a f (v+1) _ (by omega) (by omega)
    have :=De_ (v:Int)
    simp only[List.length_append,List.length_cons,List.length_nil];omega
theorem r3text_len (a:LabelR):(J0_ a).length<=725:=N6_ a _ 0 _ (by have :=De_ a.level;omega) (by decide)
def RkOk (s:Dw_):Prop:=s.rows.length<=8/\(∀ r∈s.rows,r.l.length<=64/\r.q.name.length<=16/\r.q.dead.length<=16)/\∀ i,i<16->(s.rises.get i).kept.length<=16
theorem bind_len (b:BindR) (h:BiB b):(L4_ b).length<=200:=by
  obtain⟨h1,h2,h3,h4,h5⟩:=h
  have h2:=Kg_ h2
  have hw:=Kj_ b.key
  have hn:=Hl_ (b.want.length:Int)
  unfold L4_ lt1 lt
  cases b.up<;>cases b.all<;>simp only[cond_true,cond_false,List.length_append,List.length_cons,List.length_nil]<;>omega
def Iy_ (s:Dw_):Nat->Int->Nat->Int
  |0,_,_=>default
  | f2+1,n1,v=>(bif decide ((v:Int)<16) then
 lt (K7_ (A16.get s.rises v)) fun r1=>
 Iy_ s f2 (n1+r1) (v+1)
 else n1)
def Gf_ (s:Dw_):List RRowR->Int->Int
  |[],n=>Iy_ s (16-0+1) n 0
  |x::t,n=>lt (K6_ (x.l)) fun r=>
 Gf_ s t (n+r)
def I3_ (s:Dw_):Int:=
 Gf_ s s.rows 0
def Gn_ (x:W_):Nat->Nat->Cp_->Cp_
  |0,_,_=>default
  | f2+1,v,x1=>(bif decide ((v:Int)<8) then
 Gn_ x f2 (v+1) (⟨x1.p,x1.at_,x1.book,x1.stock,x1.notes,x1.seen,(A8.set x1.spent (A8.get x.spent v) v)⟩:Cp_)
 else x1)
def Hy_ (x:W_) (p:PolicyR) (at_:Int):Cp_:=
 lt (Nu_ x.book) fun r=>
 lt (Hx_ x.stock) fun r1=>
 lt (Or_ x.notes) fun r2=>
 Gn_ x (8-0+1) 0 (⟨p,at_,r,r1,r2,x.seen,(⟨(⟨0,0⟩:Au_),(⟨0,0⟩:Au_),(⟨0,0⟩:Au_),(⟨0,0⟩:Au_),(⟨0,0⟩:Au_),(⟨0,0⟩:Au_),(⟨0,0⟩:Au_),(⟨0,0⟩:Au_)⟩:A8_SpentR)⟩:Cp_)
def Fc_:List BindR->List Bs->(List Bs)
  |[],out1=>out1
  |x::t,out1=>lt (L4_ x) fun r=>
 Fc_ t (out1++[r])
def Ek_ (b:BookR):List ShopR->List Bs->(List Bs)
  |[],out=>Fc_ b.binds out
  |x1::t1,out=>Ek_ b t1 (out++[((((([115,104,111,112,32]++(x1.name))++[32])++(gt [[100,105,114,101,99,116],[102,97,110,111,117,116],[116,111,112,105,99],[104,101,97,100,115],[114,101,108,101,97,115,101]] ((x1.sort).toNat)))++[32])++(Gg_ (x1.to')))])
def K9_ (b:BookR):(List Bs):=
 Ek_ b b.shops []
theorem Qr_:∀ (l:List BindR) (t:List Bs),(Fc_ l t).length=t.length+l.length
  |[],t=>rfl
  |x::r,t=>by
    unfold Fc_ lt
    rw[Qr_ r];simp only[List.length_append,List.length_cons,List.length_nil];omega
theorem Qq_ (b:BookR):∀ (l:List ShopR) (t:List Bs),(Ek_ b l t).length=t.length+l.length+b.binds.length
  |[],t=>Qr_ _ _
  |y::r,t=>by
    unfold Ek_
    rw[Qq_ b r];simp only[List.length_append,List.length_cons,List.length_nil];omega
theorem Z4_ {b:BookR} (h:BkOk b):(K9_ b).length<=40:=by
  unfold K9_
  rw[Qq_]
  have :=h.1;have :=h.2.1
  simp only[List.length_nil];omega
def RqOk (s:Cp_):Prop:=PoOk s.p/\(0<=s.at_/\s.at_<s.p.places.length)/\(∀ y∈s.p.places,y.name.length<=300)/\(BkOk s.book/\BkB s.book)/\RkOk s.stock/\s.notes.kept.length<=32/\NoB s.notes
def F0_:List NoteR->List Bs->(List Bs)
  |[],out4=>out4
  |x::t,out4=>lt (Pb_ x) fun r2=>
 F0_ t (out4++[r2])
def Hb_ (s:Cp_):Nat->List Bs->Nat->(List Bs)
  |0,_,_=>default
  | f6+1,out3,v2=>(bif decide ((v2:Int)<8) then
 (bif (((decide (0<((A8.get s.spent v2).count)))&&(decide ((v2:Int)<(s.p.grants.length:Int))))&&(decide (((gt s.p.grants v2).frm)=s.at_))) then
 Hb_ s f6 (out3++[((((([115,112,101,110,116,32]++(Eo_ s.p ((gt s.p.grants v2).to')))++[32])++(decB ((A8.get s.spent v2).round)))++[32])++(Df_ ((A8.get s.spent v2).count)))]) (v2+1)
 else Hb_ s f6 out3 (v2+1))
 else F0_ s.notes.kept (out3++[([110,111,116,101,115,32]++(decB s.notes.total))]))
def Fz_ (s:Cp_):Nat->List Bs->Nat->(List Bs)
  |0,_,_=>default
  | f7+1,out2,v1=>(bif decide ((v1:Int)<16) then
 (bif decide (0<(A16.get s.seen v1)) then
 lt (Eo_ s.p (v1:Int)) fun r1=>
 Fz_ s f7 (out2++[((([115,101,101,110,32]++r1)++[32])++(decB (A16.get s.seen v1)))]) (v1+1)
 else Fz_ s f7 out2 (v1+1))
 else Hb_ s (8-0+1) out2 0)
def Ha_ (s:Cp_):Nat->List Bs->Nat->(List Bs)
  |0,_,_=>default
  | f8+1,out1,v=>(bif decide ((v:Int)<16) then
 (bif decide (0<((A16.get s.stock.rises v).total)) then
 Ha_ s f8 (out1++[((((([114,105,115,101,32]++(Eo_ s.p (v:Int)))++[32])++(decB ((A16.get s.stock.rises v).total)))++[32])++(Df_ (((A16.get s.stock.rises v).kept).length:Int)))]) (v+1)
 else Ha_ s f8 out1 (v+1))
 else Fz_ s (16-0+1) out1 0)
def Fy_ (s:Cp_):List RRowR->List Bs->(List Bs)
  |[],out=>Ha_ s (16-0+1) out 0
  |x1::t1,out=>Fy_ s t1 (out++[((((((((([113,117,101,117,101,32]++(x1.q.name))++[32])++(Df_ ((x1.l).length:Int)))++[32])++(decB (x1.q.most)))++[32])++(Df_ (((x1.l).length:Int)-(Gr_ (x1.l)))))++[32])++(Gg_ (x1.q.dead)))])
def G9_ (s:Cp_):(List Bs):=
 lt (K9_ s.book) fun r=>
 Fy_ s s.stock.rows ([((((((([112,108,97,99,101,32]++((gt s.p.places ((s.at_).toNat)).name))++[32])++(J0_ ((gt s.p.places ((s.at_).toNat)).label)))++[32])++(Df_ (I3_ s.stock)))++[32])++(Df_ ((gt s.p.places ((s.at_).toNat)).bytes)))]++r)
def E0_ (kind:Int) (text:Bs):List NoteR->Int->Int
  |[],n=>n
  | x::t,n=>(bif ((decide ((x.kind)=kind))&&(decide ((x.text)=text))) then
 E0_ kind text t (n+1)
 else E0_ kind text t n)
def Ls_ (s:Cp_) (kind:Int) (text:Bs):Int:=
 E0_ kind text s.notes.kept 0
theorem all_eq0:∀ (l out:List ItemR),Bv_ l out=out++l
  |[],out=>by simp[Bv_]
  |x::t,out=>by unfold Bv_ lt;dsimp only;rw[all_eq0 t];simp[show By_ x=x from rfl]
theorem all_eq (l:LineR):Fr_ l=l.items:=by unfold Fr_;rw[all_eq0];rfl
theorem rall_eq0:∀ (l out:List Mail),Ct_ l out=out++l
  |[],out=>by simp[Ct_]
  |x::t,out=>by unfold Ct_ lt;dsimp only;rw[rall_eq0 t];simp[show D_ x=x from rfl]
theorem rall_eq (x:RiseR):Ea_ x=x.kept:=by unfold Ea_;rw[rall_eq0];rfl
theorem l18of0:∀ (l out:List ItemR),Hv_ l out=out++l
  |[],out=>by simp[Hv_]
  |x::t,out=>by unfold Hv_;rw[l18of0 t];simp
theorem l18of (l:LineR):Qm_ l=l.items:=by unfold Qm_ lt;dsimp only;rw[l18of0,all_eq];rfl
theorem l20of (x:RiseR):Sm_ x=x:=by unfold Sm_ lt;dsimp only;rw[rall_eq];rfl
theorem l19of0:∀ (l:List NoteR) (t:Int) (out:List NoteR),Hw_ l t out=⟨t,out++l⟩
  |[],t,out=>by simp[Hw_]
  |x::r,t,out=>by unfold Hw_;rw[l19of0 r];simp
theorem l19of (n:B7_):Or_ n=n:=by unfold Or_ lt;dsimp only;rw[l19of0];rfl
theorem l14of1:∀ (l:List BindR) (a:List ShopR) (b:List BindR),Hu_ l a b=⟨a,b++l⟩
  |[],a,b=>by simp[Hu_]
  |x::r,a,b=>by unfold Hu_;rw[l14of1 r];simp
theorem l14of0 (q:BookR):∀ (l:List ShopR) (a:List ShopR) (b:List BindR),Ht_ q l a b=⟨a++l,b++q.binds⟩
  |[],a,b=>by unfold Ht_ lt;dsimp only;rw[l14of1,Lw_];simp
  |x::r,a,b=>by unfold Ht_;rw[l14of0 q r];simp
theorem l14of (b:BookR):Nu_ b=b:=by unfold Nu_ lt;dsimp only;rw[l14of0];rfl
theorem Uj_:∀ (l:List RowR) (out:List QueueR),Ad_ l out=out++l.map (·.q)
  |[],out=>by simp[Ad_]
  |x::t,out=>by unfold Ad_;rw[Uj_ t];simp
theorem Yg_ (s:E_):Ax_ s=s.rows.map (·.q):=by unfold Ax_;rw[Uj_];rfl
def rrow (s:E_) (q:QueueR):RRowR:=⟨q,(Ap_ s q.name).items⟩
theorem l21of1 (s:E_):∀ (f v:Nat) (x:Dw_),16-v<f->v<=16->(∀ i,i<v->x.rises.get i=s.rises.get i) ->
    (Ih_ s f v x).next = x.next /\ (Ih_ s f v x).most=x.most/\(Ih_ s f v x).rows=x.rows/\∀ i,i<16->(Ih_ s f v x).rises.get i=s.rises.get i
  |0,_,_,h,_,_=>by omega
  |f+1,v,x,hf,hv,hx=>by
    unfold Ih_ lt
    let Q:Dw_->Prop:=fun r=>r.next = x.next /\ r.most=x.most/\r.rows=x.rows/\∀ i,i<16->r.rises.get i=s.rises.get i
    refine bt (P:=Q) (fun e=>?_) fun e=>⟨rfl,rfl,rfl,fun i hi=>hx i (by have :=of_decide_eq_false e;omega)⟩
    have hv':v<16:=by have :=of_decide_eq_true e;omega
    have hr:Sm_ (Bd_ s (v:Int))=s.rises.get v:=by
      rw[l20of]
      unfold Bd_
      rw[decide_eq_false (show ¬((v:Int)<0) by omega),decide_eq_false (show ¬((16:Int)<=v) by omega)]
      simp
    have :=l21of1 s f (v+1) ⟨x.next,x.most,x.rows,A16.set x.rises (Sm_ (Bd_ s (v:Int))) v⟩ (by omega) (by omega) fun i hi=>by
      show A16.get (A16.set x.rises _ v) i=_
      rw[A16.get_set _ _ _ _ hv' (by omega)]
      split
      · rename_i q;rw[q,hr]
      · exact hx i (by omega)
    exact this
theorem l21of0 (s:E_):∀ (l:List QueueR) (out:List RRowR),(Gm_ s l out).next = s.next /\ (Gm_ s l out).rows=out++l.map (rrow s)/\∀ i,i<16->(Gm_ s l out).rises.get i=s.rises.get i
  |[],out=>by
    unfold Gm_
    obtain⟨h1,h2,h3,h4⟩:=l21of1 s (16-0+1) 0 (⟨(Fn_ s),((M_ s)+(C6_ s)),out,(⟨(⟨0,[]⟩:RiseR),(⟨0,[]⟩:RiseR),(⟨0,[]⟩:RiseR),(⟨0,[]⟩:RiseR),(⟨0,[]⟩:RiseR),(⟨0,[]⟩:RiseR),(⟨0,[]⟩:RiseR),(⟨0,[]⟩:RiseR),(⟨0,[]⟩:RiseR),(⟨0,[]⟩:RiseR),(⟨0,[]⟩:RiseR),(⟨0,[]⟩:RiseR),(⟨0,[]⟩:RiseR),(⟨0,[]⟩:RiseR),(⟨0,[]⟩:RiseR),(⟨0,[]⟩:RiseR)⟩:A16_RiseR)⟩:Dw_) (by omega) (by omega) (fun i hi=>by omega)
    exact⟨h1,by rw[h3];simp,h4⟩
  |x::t,out=>by
    unfold Gm_ lt
    dsimp only
    obtain⟨h1,h2,h3⟩:=l21of0 s t (out++[(⟨x,Qm_ (Ap_ s x.name)⟩:RRowR)])
    refine⟨h1,?_,h3⟩
    rw[h2,l18of]
    simp[rrow]
theorem l21of (s:E_):(Hx_ s).next = s.next /\ (Hx_ s).rows=s.rows.map (fun r=>rrow s r.q)/\∀ i,i<16->(Hx_ s).rises.get i=s.rises.get i:=by
  unfold Hx_ lt
  dsimp only
  obtain⟨h1,h2,h3⟩:=l21of0 s (Ax_ s) []
  refine⟨h1,?_,h3⟩
  rw[h2,Yg_];simp[Function.comp_def]
theorem l23of0 (x:W_):∀ (f v:Nat) (y:Cp_),8-v<f->v<=8->(∀ i,i<v->y.spent.get i=x.spent.get i) ->
    (Gn_ x f v y).p=y.p/\(Gn_ x f v y).at_=y.at_/\(Gn_ x f v y).book=y.book/\(Gn_ x f v y).stock=y.stock/\(Gn_ x f v y).notes=y.notes/\(Gn_ x f v y).seen=y.seen/\∀ i,i<8->(Gn_ x f v y).spent.get i=x.spent.get i
  |0,_,_,h,_,_=>by omega
  |f+1,v,y,hf,hv,hy=>by
    unfold Gn_
    let Q:Cp_->Prop:=fun r=>r.p=y.p/\r.at_=y.at_/\r.book=y.book/\r.stock=y.stock/\r.notes=y.notes/\r.seen=y.seen/\∀ i,i<8->r.spent.get i=x.spent.get i
    refine bt (P:=Q) (fun e=>?_) fun e=>⟨rfl,rfl,rfl,rfl,rfl,rfl,fun i hi=>hy i (by have :=of_decide_eq_false e;omega)⟩
    have hv':v<8:=by have :=of_decide_eq_true e;omega
    exact l23of0 x f (v+1) ⟨y.p,y.at_,y.book,y.stock,y.notes,y.seen,A8.set y.spent (A8.get x.spent v) v⟩ (by omega) (by omega) fun i hi=>by
      show A8.get (A8.set y.spent _ v) i=_
      rw[A8.get_set _ _ _ _ hv' (by omega)]
      split
      · rename_i q;rw[q]
      · exact hy i (by omega)
theorem l23of (x:W_) (p:PolicyR) (a:Int):(Hy_ x p a).p=p/\(Hy_ x p a).at_=a/\(Hy_ x p a).book=x.book/\(Hy_ x p a).stock=Hx_ x.stock/\(Hy_ x p a).notes=x.notes/\(Hy_ x p a).seen=x.seen/\∀ i,i<8->(Hy_ x p a).spent.get i=x.spent.get i:=by
  unfold Hy_ lt
  dsimp only
  rw[l14of,l19of]
  exact l23of0 x _ 0 (⟨p,a,x.book,Hx_ x.stock,x.notes,x.seen,(⟨(⟨0,0⟩:Au_),(⟨0,0⟩:Au_),(⟨0,0⟩:Au_),(⟨0,0⟩:Au_),(⟨0,0⟩:Au_),(⟨0,0⟩:Au_),(⟨0,0⟩:Au_),(⟨0,0⟩:Au_)⟩:A8_SpentR)⟩:Cp_) (by omega) (by omega) (fun i hi=>by omega)
theorem rk_of {s:E_} (h:StkOk s) (hb:RoB s):RkOk (Hx_ s):=by
  obtain⟨_,h2,h3⟩:=l21of s
  refine⟨?_,fun r hr=>?_,fun i hi=>?_⟩
  · rw[h2,List.length_map];exact h.1.1
  · rw[h2] at hr
    obtain⟨q,hq,rfl⟩:=List.mem_map.1 hr
    have :=qcheck_f (hb q hq)
    exact⟨(P4_ h).1,this.1,this.2.1⟩
  · rw[h3 i hi];exact (h.2.1 i hi).1
theorem rq_of {p:PolicyR} {a:Int} {x:W_} (h:RpOk p a x):RqOk (Hy_ x (Gz_ p) a):=by
  obtain⟨h1,h2,h3,h4,h5,h6,h7⟩:=h
  obtain⟨g1,g2,g3,g4,g5,_⟩:=l23of x (Gz_ p) a
  rw[to_eq] at g1
  unfold RqOk
  rw[to_eq,show (Hy_ x p a).p=p from by rw[to_eq] at *;exact g1]
  rw[to_eq] at g2 g3 g4 g5
  rw[g2,g3,g4,g5]
  exact⟨h1,h2,h3,⟨h4.1,h5⟩,rk_of h4.2.1 h6,h4.2.2.1,h7⟩
theorem Wu_ {l:List DeedR} {k:Nat} {d:DeedR} (h:(PV.sl DeedR.pc l).wf) (hd:l[k]? = some d):0<=d.shop.sort:=by
  have :=(h.2 d (List.mem_of_getElem? hd)).2.2.2.1
  exact this.1
theorem Wv_ {l:List DeedR} {k:Nat} {d:DeedR} (h:(PV.sl DeedR.pc l).wf) (hd:l[k]? = some d):∀ p∈d.bind.want,p.wf:=fun p hp=>by
  have :=(h.2 d (List.mem_of_getElem? hd)).2.2.2.2.2.2.2.2.2.2.2.2.2.1
  exact Pair.pwf (this.2 p hp)
theorem Ws_ {l:List DeedR} {k:Nat} {d:DeedR} (h:(PV.sl DeedR.pc l).wf) (hd:l[k]? = some d):0<=d.code/\d.code<=255:=by
  have :=(h.2 d (List.mem_of_getElem? hd)).2.2.2.2.2.2.2.2.2.2.2.2.2.2.2.2.2.2.2.1
  exact this
theorem Qn_:∀ (l:List PlaceR),Fp_ l=true->∀ y∈l,y.name.length<=40
  |[],_,y,h=>by cases h
  |x::t,h,y,hy=>by
    unfold Fp_ at h
    cases e:decide (40<(x.name.length:Int)) with
    |true=>rw[e] at h;cases h
    |false=>
      rw[e] at h
      rcases List.mem_cons.1 hy with q|q
      · rw[q];have :=of_decide_eq_false e;omega
      · exact Qn_ t h y q
theorem may_names {p:PolicyR} (h:Lf_ p=true):∀ y∈p.places,y.name.length<=300:=by
  unfold Lf_ at h
  rw[Bool.and_eq_true] at h
  have h1:=h.1
  unfold Ka_ at h1
  cases e:(decide (20<(p.places.length:Int)) || decide (40<(p.slots.length:Int)) || decide (10<(p.grants.length:Int))) with
  |true=>rw[e] at h1;cases h1
  |false=>
    rw[e] at h1
    intro y hy
    have :=Qn_ _ h1 y hy
    omega
theorem l05_may2 {p:PolicyR} (h:Lf_ p=true):PoOk p/\0<p.places.length/\p.places.length<=16/\0<p.slots.length/\p.slots.length<=32/\p.grants.length<=8/\∀ y∈p.places,y.name.length<=300:=by
  obtain⟨a,b,c,d,e,f⟩:=l05_may h
  exact⟨a,b,c,d,e,f,may_names h⟩
theorem rp_st {p:PolicyR} {a:Int} {s:B_} {x:W_} (e:x=O_ s) (hp:PoOk p) (ha:0<=a/\a<p.places.length) (hn:∀ y∈p.places,y.name.length<=300) (h:StOk s) (hb:StB s):RpOk p a x:=by
  subst e
  exact⟨hp,ha,hn,h.1,hb.1,hb.2.1,hb.2.2⟩
def B3_ (p:PolicyR) (kind:Int) (text:Bs) (r:Int):List DeedR->B_->Bool
  |[],x=>lt (O_ x) fun r3=>
 lt (Gz_ p) fun r4=>
 lt (Hy_ r3 r4 r) fun r5=>
 lt (O_ x) fun r6=>
 lt (E1_ p r r6) fun r7=>
 lt (G9_ r5) fun r8=>
 ((decide (r7=r8))&&(decide ((Id_ (O_ x) kind text)=(Ls_ r5 kind text))))
  |x1::t,x=>lt (Aj_ x x1) fun r2=>
 B3_ p kind text r t r2.1
def G4_ (p:PolicyR) (place:Int) (l:List DeedR) (kind:Int) (text:Bs):Bool:=
 (bif !(Ox_) then
 false
 else (bif (((!(Lf_ p))||(!(Kb_ l)))||(decide (80<(text.length:Int)))) then
 true
 else lt (Xr_ p place) fun r=>
 lt (Cx_ p r) fun r1=>
 B3_ p kind text r l r1))
inductive EqL {α:Type _} (F G:Nat->α):List Nat->Prop
  |nil:EqL F G []
  |cons {k:Nat} {l:List Nat}:F k=G k->EqL F G l->EqL F G (k::l)
theorem EqL.map {α:Type _} {F G:Nat->α}:∀ {l:List Nat},EqL F G l->l.map F=l.map G
  |[],_=>rfl
  |k::l, .cons h hl=>by rw[List.map_cons,List.map_cons,h,hl.map]
variable {P:Program} {n:Nat} {N:Rest} {H0:Env} {fF:Nat->PV} {fL:Nat->Blk}
theorem nZ {ι:Type _} {keep kL:List Nat} {G:Nat->PV} {GL:Nat->Blk} {lv:ι->List (Nat×PV)} {lL:ι->List (Nat×Blk)} {Φ:ι->Prop} {μ:ι->Nat} {m:Nat} {ks:List Kt} {Q:Qs} (x':ι) (hΦ:Φ x') (h3:AllF fF (lv x')) (h4:AllL fL (lL x'))
    (h1:EqL fF G keep:=by ((repeat' (first|exact EqL.nil|refine EqL.cons ?_ ?_))<;>(conv=>lhs;whnf)<;>(conv=>rhs;whnf)<;>exact rfl))
    (h2:EqL fL GL kL:=by ((repeat' (first|exact EqL.nil|refine EqL.cons ?_ ?_))<;>(conv=>lhs;whnf)<;>(conv=>rhs;whnf)<;>exact rfl))
    (hm:μ x'<m:=by decide):Hd P n N H0 Q (.ex .normal) (.lp (LJ (fun x=>⟨mkF (lv x) keep G,mkL (lL x) kL GL⟩) Φ μ m)::ks) ⟨fF,fL⟩:=next x' h1.map h2.map h3 h4 hm hΦ
theorem nY {ι:Type _} {keep kL:List Nat} {G:Nat->PV} {GL:Nat->Blk} {lv:ι->List (Nat×PV)} {lL:ι->List (Nat×Blk)} {Φ:ι->Prop} {μ:ι->Nat} {m:Nat} {ks:List Kt} {Q:Qs} (x':ι) (h3:AllF fF (lv x')) (h4:AllL fL (lL x')) (hm:μ x'<m) (hΦ:Φ x')
    (h1:EqL fF G keep:=by ((repeat' (first|exact EqL.nil|refine EqL.cons ?_ ?_))<;>(conv=>lhs;whnf)<;>(conv=>rhs;whnf)<;>exact rfl))
    (h2:EqL fL GL kL:=by ((repeat' (first|exact EqL.nil|refine EqL.cons ?_ ?_))<;>(conv=>lhs;whnf)<;>(conv=>rhs;whnf)<;>exact rfl)):Hd P n N H0 Q (.ex .normal) (.lp (LJ (fun x=>⟨mkF (lv x) keep G,mkL (lL x) kL GL⟩) Φ μ m)::ks) ⟨fF,fL⟩:=next x' h1.map h2.map h3 h4 hm hΦ
end Go.SW.V
set_option maxHeartbeats 6400000
namespace Go.Proofs
open Go.Shelf
def Tryz.lays156_ren:Go.Shelf.Ren:=⟨fun|156=>31|165=>95|166=>96|169=>97|240=>184|241=>185|276=>244|277=>245|n=>n,fun|31=>106|9=>9|3=>3|4=>4|0=>0|20=>20|72=>195|76=>199|70=>192|37=>193|75=>198|127=>289|164=>346|5=>5|80=>175|n=>n,fun|n=>n⟩
theorem Tryz.lays156:Go.Proofs.Lays.n156 Tryz.prog Tryz.lays156_ren:={
  mixed:=by kernel_rfl
  f156:=Tryz.func31.trans (congrArg some (by kernel_rfl))
  f165:=Tryz.func95.trans (congrArg some (by kernel_rfl))
  f166:=Tryz.func96.trans (congrArg some (by kernel_rfl))
  f169:=Tryz.func97.trans (congrArg some (by kernel_rfl))
  f240:=Tryz.func184.trans (congrArg some (by kernel_rfl))
  f241:=Tryz.func185.trans (congrArg some (by kernel_rfl))
  f276:=Tryz.func244.trans (congrArg some (by kernel_rfl))
  f277:=Tryz.func245.trans (congrArg some (by kernel_rfl))
  t0:=Tryz.underlying0
  a0:=Tryz.isAgg0
  z0:=Tryz.sizeOf0
  v0:=Tryz.zeroValue0
  t3:=Tryz.underlying3
  a3:=Tryz.isAgg3
  z3:=Tryz.sizeOf3
  v3:=Tryz.zeroValue3
  t4:=Tryz.underlying4
  a4:=Tryz.isAgg4
  z4:=Tryz.sizeOf4
  v4:=Tryz.zeroValue4
  t9:=Tryz.underlying9
  a9:=Tryz.isAgg9
  z9:=Tryz.sizeOf9
  v9:=Tryz.zeroValue9
  t20:=Tryz.underlying20
  a20:=Tryz.isAgg20
  z20:=Tryz.sizeOf20
  v20:=Tryz.zeroValue20
  t31:=Tryz.underlying106
  a31:=Tryz.isAgg106
  z31:=Tryz.sizeOf106
  v31:=Tryz.zeroValue106
  t37:=Tryz.underlying193
  a37:=Tryz.isAgg193
  z37:=Tryz.sizeOf193
  v37:=Tryz.zeroValue193
  t70:=Tryz.underlying192
  a70:=Tryz.isAgg192
  z70:=Tryz.sizeOf192
  v70:=Tryz.zeroValue192
  t72:=Tryz.underlying195
  a72:=Tryz.isAgg195
  z72:=Tryz.sizeOf195
  v72:=Tryz.zeroValue195
  t75:=Tryz.underlying198
  a75:=Tryz.isAgg198
  z75:=Tryz.sizeOf198
  v75:=Tryz.zeroValue198
  t76:=Tryz.underlying199
  a76:=Tryz.isAgg199
  z76:=Tryz.sizeOf199
  v76:=Tryz.zeroValue199
  t127:=Tryz.underlying289
  a127:=Tryz.isAgg289
  z127:=Tryz.sizeOf289
  v127:=Tryz.zeroValue289
  t164:=Tryz.underlying346
  a164:=Tryz.isAgg346
  z164:=Tryz.sizeOf346
  v164:=Tryz.zeroValue346}
theorem Tryz.Builder_Extra_156:Builder.Extra Tryz.prog Tryz.lays156_ren:={
  sizeBuilder:=by kernel_rfl
  liesBuilder:=by kernel_rfl
  t5:=Tryz.underlying5
  a5:=Tryz.isAgg5
  z5:=Tryz.sizeOf5
  v5:=Tryz.zeroValue5
  infoByte:=by kernel_rfl
  cellsByte:=by kernel_rfl
  sizeByte:=by kernel_rfl
  neB5:=by decide}
theorem Tryz.strings_Join_none (a:Option Addr) (c:Nat) (sep:ByteArray) (w:World) :
    Calls Tryz.prog 31 #[.slice a 0 c, .string sep] w fun e w'=>e = .returned (.string ⟨#[]⟩)/\w'=w:=Any.strings_Join_none Tryz.lays156 Tryz.Builder_Extra_156 a c sep w
open Go.RowKit in
theorem Tryz.strings_Join (bk o c:Nat) (xs:List ByteArray) (sep:ByteArray) (w:World) (hcells:∀ (j:Nat) x,xs[j]? = some x->w.cell? ⟨bk,o+j,none⟩=some (.string x)) (hbk:bk<w.heap.size) (hN:xs.length<=140737488355328) (hcap:xs.length<=c) (hlen:(Lib.join (xs.map (·.data.toList)) sep.data.toList).length<=140737488355328) :
    Calls Tryz.prog 31 #[.slice (some ⟨bk,o,none⟩) xs.length c, .string sep] w fun e w'=>e = .returned (.string ⟨(Lib.join (xs.map (·.data.toList)) sep.data.toList).toArray⟩)/\Below w.heap.size w w':=Any.strings_Join Tryz.lays156 Tryz.Builder_Extra_156 bk o c xs sep w hcells hbk hN hcap hlen
def Tryz.lays283_ren:Go.Shelf.Ren:=⟨fun|283=>246|n=>n,fun|3=>3|9=>9|4=>4|n=>n,fun|n=>n⟩
theorem Tryz.lays283:Go.Proofs.Lays.n283 Tryz.prog Tryz.lays283_ren:={
  mixed:=by kernel_rfl
  f283:=Tryz.func246.trans (congrArg some (by kernel_rfl))
  t3:=Tryz.underlying3
  a3:=Tryz.isAgg3
  z3:=Tryz.sizeOf3
  v3:=Tryz.zeroValue3
  t4:=Tryz.underlying4
  a4:=Tryz.isAgg4
  z4:=Tryz.sizeOf4
  v4:=Tryz.zeroValue4
  t9:=Tryz.underlying9
  a9:=Tryz.isAgg9
  z9:=Tryz.sizeOf9
  v9:=Tryz.zeroValue9}
open Go.Lib in
theorem Tryz.internal_strconv_small (i:Nat) (h:i<100) (w:World) :
    Calls Tryz.prog 246 #[.int .i64 i] w fun e w'=>e = .returned (.string ⟨(Lib.decDigits i).toArray⟩)/\w'=w:=Any.internal_strconv_small Tryz.lays283 i h w
def Tryz.laysM284_ren:Go.Shelf.Ren:=⟨fun|284=>247|129=>289|317=>288|318=>290|n=>n,fun|53=>22|3=>3|212=>388|0=>0|4=>4|46=>277|5=>5|9=>9|n=>n,fun|17=>1|n=>n⟩
theorem Tryz.laysM284:Go.Proofs.LaysM.n284 Tryz.prog Tryz.laysM284_ren:={
  mixed:=by kernel_rfl
  f129:=Tryz.func289.trans (congrArg some (by kernel_rfl))
  f284:=Tryz.func247.trans (congrArg some (by kernel_rfl))
  f317:=Tryz.func288.trans (congrArg some (by kernel_rfl))
  f318:=Tryz.func290.trans (congrArg some (by kernel_rfl))
  t0:=Tryz.underlying0
  a0:=Tryz.isAgg0
  z0:=Tryz.sizeOf0
  v0:=Tryz.zeroValue0
  t3:=Tryz.underlying3
  a3:=Tryz.isAgg3
  z3:=Tryz.sizeOf3
  v3:=Tryz.zeroValue3
  t4:=Tryz.underlying4
  a4:=Tryz.isAgg4
  z4:=Tryz.sizeOf4
  v4:=Tryz.zeroValue4
  t5:=Tryz.underlying5
  a5:=Tryz.isAgg5
  z5:=Tryz.sizeOf5
  v5:=Tryz.zeroValue5
  t9:=Tryz.underlying9
  a9:=Tryz.isAgg9
  z9:=Tryz.sizeOf9
  v9:=Tryz.zeroValue9
  t46:=Tryz.underlying277
  a46:=Tryz.isAgg277
  z46:=Tryz.sizeOf277
  v46:=Tryz.zeroValue277
  t53:=Tryz.underlying22
  a53:=Tryz.isAgg22
  z53:=Tryz.sizeOf22
  v53:=Tryz.zeroValue22
  t212:=Tryz.underlying388
  a212:=Tryz.isAgg388
  z212:=Tryz.sizeOf388
  v212:=Tryz.zeroValue388
  g17:=by kernel_rfl
  i0:=by kernel_rfl
  i3:=by kernel_rfl
  i4:=by kernel_rfl
  i5:=by kernel_rfl
  i9:=by kernel_rfl
  i46:=by kernel_rfl
  i53:=by kernel_rfl
  i212:=by kernel_rfl
  m17:=by kernel_rfl}
open Go.Lib in
theorem Tryz.internal_strconv_numDigits (u:Nat) (h1:1<=u) (h2:u<18446744073709551616) (w:World) (htab:Lib.TabIs Tryz.prog w "internal/strconv.uint64pow10" .u64 Lib.pow10Tab) :
    Calls Tryz.prog 247 #[.int .u64 u] w fun e w'=>e = .returned (.int .i64 (Lib.nDigits u))/\w'=w:=Any.internal_strconv_numDigits Tryz.laysM284 u h1 h2 w htab
def Tryz.lays285_ren:Go.Shelf.Ren:=⟨fun|285=>248|n=>n,fun|37=>193|53=>22|3=>3|4=>4|51=>125|9=>9|5=>5|0=>0|n=>n,fun|n=>n⟩
theorem Tryz.lays285:Go.Proofs.Lays.n285 Tryz.prog Tryz.lays285_ren:={
  mixed:=by kernel_rfl
  f285:=Tryz.func248.trans (congrArg some (by kernel_rfl))
  t0:=Tryz.underlying0
  a0:=Tryz.isAgg0
  z0:=Tryz.sizeOf0
  v0:=Tryz.zeroValue0
  t3:=Tryz.underlying3
  a3:=Tryz.isAgg3
  z3:=Tryz.sizeOf3
  v3:=Tryz.zeroValue3
  t4:=Tryz.underlying4
  a4:=Tryz.isAgg4
  z4:=Tryz.sizeOf4
  v4:=Tryz.zeroValue4
  t5:=Tryz.underlying5
  a5:=Tryz.isAgg5
  z5:=Tryz.sizeOf5
  v5:=Tryz.zeroValue5
  t9:=Tryz.underlying9
  a9:=Tryz.isAgg9
  z9:=Tryz.sizeOf9
  v9:=Tryz.zeroValue9
  t37:=Tryz.underlying193
  a37:=Tryz.isAgg193
  z37:=Tryz.sizeOf193
  v37:=Tryz.zeroValue193
  t51:=Tryz.underlying125
  a51:=Tryz.isAgg125
  z51:=Tryz.sizeOf125
  v51:=Tryz.zeroValue125
  t53:=Tryz.underlying22
  a53:=Tryz.isAgg22
  z53:=Tryz.sizeOf22
  v53:=Tryz.zeroValue22}
open Go.RowKit Go.Sort Go.Lib in
theorem Tryz.internal_strconv_formatBase10 (blk off cap:Nat) (u:Nat) (d:Array UInt8) (w:World) (hH:Holds (fun (b:UInt8)=>Value.int .u8 (b.toNat:Int)) w blk off d) (hu:u<10 ^ d.size) (hu64:u<18446744073709551616) (hsz:d.size<4611686018427387904) :
    Calls Tryz.prog 248 #[.slice (some ⟨blk,off,none⟩) d.size cap, .int .u64 u] w fun e w'=>
      e = .returned (.tuple #[])/\∃ (n v':Nat) (dk:Array UInt8),w'=(putRow (fun (b:UInt8)=>Value.int .u8 (b.toNat:Int)) w blk off dk).drewN n/\FmtInv d.size u 0 v' dk:=Any.internal_strconv_formatBase10 Tryz.lays285 blk off cap u d w hH hu hu64 hsz
def Tryz.laysM171_ren:Go.Shelf.Ren:=⟨fun|171=>58|243=>141|246=>227|283=>246|284=>247|285=>248|286=>249|129=>289|317=>288|318=>290|319=>291|320=>292|337=>320|338=>321|n=>n,fun|3=>3|9=>9|2=>2|4=>4|171=>349|0=>0|53=>22|37=>193|5=>5|173=>352|212=>388|51=>125|20=>20|213=>389|46=>277|232=>420|233=>421|n=>n,fun|17=>1|18=>2|19=>3|n=>n⟩
theorem Tryz.laysM171:Go.Proofs.LaysM.n171 Tryz.prog Tryz.laysM171_ren:={
  mixed:=by kernel_rfl
  f129:=Tryz.func289.trans (congrArg some (by kernel_rfl))
  f171:=Tryz.func58.trans (congrArg some (by kernel_rfl))
  f243:=Tryz.func141.trans (congrArg some (by kernel_rfl))
  f246:=Tryz.func227.trans (congrArg some (by kernel_rfl))
  f283:=Tryz.func246.trans (congrArg some (by kernel_rfl))
  f284:=Tryz.func247.trans (congrArg some (by kernel_rfl))
  f285:=Tryz.func248.trans (congrArg some (by kernel_rfl))
  f286:=Tryz.func249.trans (congrArg some (by kernel_rfl))
  f317:=Tryz.func288.trans (congrArg some (by kernel_rfl))
  f318:=Tryz.func290.trans (congrArg some (by kernel_rfl))
  f319:=Tryz.func291.trans (congrArg some (by kernel_rfl))
  f320:=Tryz.func292.trans (congrArg some (by kernel_rfl))
  f337:=Tryz.func320.trans (congrArg some (by kernel_rfl))
  f338:=Tryz.func321.trans (congrArg some (by kernel_rfl))
  t0:=Tryz.underlying0
  a0:=Tryz.isAgg0
  z0:=Tryz.sizeOf0
  v0:=Tryz.zeroValue0
  t2:=Tryz.underlying2
  a2:=Tryz.isAgg2
  z2:=Tryz.sizeOf2
  v2:=Tryz.zeroValue2
  t3:=Tryz.underlying3
  a3:=Tryz.isAgg3
  z3:=Tryz.sizeOf3
  v3:=Tryz.zeroValue3
  t4:=Tryz.underlying4
  a4:=Tryz.isAgg4
  z4:=Tryz.sizeOf4
  v4:=Tryz.zeroValue4
  t5:=Tryz.underlying5
  a5:=Tryz.isAgg5
  z5:=Tryz.sizeOf5
  v5:=Tryz.zeroValue5
  t9:=Tryz.underlying9
  a9:=Tryz.isAgg9
  z9:=Tryz.sizeOf9
  v9:=Tryz.zeroValue9
  t20:=Tryz.underlying20
  a20:=Tryz.isAgg20
  z20:=Tryz.sizeOf20
  v20:=Tryz.zeroValue20
  t37:=Tryz.underlying193
  a37:=Tryz.isAgg193
  z37:=Tryz.sizeOf193
  v37:=Tryz.zeroValue193
  t46:=Tryz.underlying277
  a46:=Tryz.isAgg277
  z46:=Tryz.sizeOf277
  v46:=Tryz.zeroValue277
  t51:=Tryz.underlying125
  a51:=Tryz.isAgg125
  z51:=Tryz.sizeOf125
  v51:=Tryz.zeroValue125
  t53:=Tryz.underlying22
  a53:=Tryz.isAgg22
  z53:=Tryz.sizeOf22
  v53:=Tryz.zeroValue22
  t171:=Tryz.underlying349
  a171:=Tryz.isAgg349
  z171:=Tryz.sizeOf349
  v171:=Tryz.zeroValue349
  t173:=Tryz.underlying352
  a173:=Tryz.isAgg352
  z173:=Tryz.sizeOf352
  v173:=Tryz.zeroValue352
  t212:=Tryz.underlying388
  a212:=Tryz.isAgg388
  z212:=Tryz.sizeOf388
  v212:=Tryz.zeroValue388
  t213:=Tryz.underlying389
  a213:=Tryz.isAgg389
  z213:=Tryz.sizeOf389
  t232:=Tryz.underlying420
  a232:=Tryz.isAgg420
  z232:=Tryz.sizeOf420
  v232:=Tryz.zeroValue420
  t233:=Tryz.underlying421
  a233:=Tryz.isAgg421
  z233:=Tryz.sizeOf421
  v233:=Tryz.zeroValue421
  g17:=by kernel_rfl
  g18:=by kernel_rfl
  g19:=by kernel_rfl
  i0:=by kernel_rfl
  i2:=by kernel_rfl
  i3:=by kernel_rfl
  i4:=by kernel_rfl
  i5:=by kernel_rfl
  i9:=by kernel_rfl
  i20:=by kernel_rfl
  i37:=by kernel_rfl
  i46:=by kernel_rfl
  i51:=by kernel_rfl
  i53:=by kernel_rfl
  i171:=by kernel_rfl
  i173:=by kernel_rfl
  i212:=by kernel_rfl
  i232:=by kernel_rfl
  i233:=by kernel_rfl
  m17:=by kernel_rfl
  m18:=by kernel_rfl
  m19:=by kernel_rfl}
open Go.RowKit Go.Sort Go.Lib in
theorem Tryz.strconv_Itoa (n:Int) (h0:-9223372036854775808<=n) (h1:n<=9223372036854775807) (w:World) (htab:Lib.TabIs Tryz.prog w "internal/strconv.uint64pow10" .u64 Lib.pow10Tab) :
    Calls Tryz.prog 58 #[.int .i64 n] w fun e w'=>e = .returned (.string ⟨(Lib.itoa n).toArray⟩)/\∃ k os,w'=grow (w.drewN k) os:=Any.strconv_Itoa Tryz.laysM171 n h0 h1 w htab
open Go.RowKit Go.Sort Go.Lib
theorem Tryz.FU0 (u:Nat) (hu64:u<18446744073709551616) (w:World) (htab:Lib.TabIs Tryz.prog w "internal/strconv.uint64pow10" .u64 Lib.pow10Tab) :
    Calls Tryz.prog 186 #[.int .u64 u, .int .i64 10] w fun e w'=>e = .returned (.string ⟨(Lib.decDigits u).toArray⟩)/\∃ k os,w'=grow (w.drewN k) os:=by
  have t3:=Tryz.underlying3;have a3:=Tryz.isAgg3;have z3:=Tryz.sizeOf3;have v3:=Tryz.zeroValue3
  have t4:=Tryz.underlying4;have a4:=Tryz.isAgg4;have z4:=Tryz.sizeOf4;have v4:=Tryz.zeroValue4
  have t5:=Tryz.underlying5;have a5:=Tryz.isAgg5;have z5:=Tryz.sizeOf5;have v5:=Tryz.zeroValue5
  have t9:=Tryz.underlying9;have a9:=Tryz.isAgg9;have z9:=Tryz.sizeOf9;have v9:=Tryz.zeroValue9
  have t22:=Tryz.underlying22;have a22:=Tryz.isAgg22;have z22:=Tryz.sizeOf22;have v22:=Tryz.zeroValue22
  have t193:=Tryz.underlying193;have a193:=Tryz.isAgg193;have z193:=Tryz.sizeOf193;have v193:=Tryz.zeroValue193
  have t349:=Tryz.underlying349;have a349:=Tryz.isAgg349;have z349:=Tryz.sizeOf349;have v349:=Tryz.zeroValue349
  have e246:∀ args w,(callFunc 246 args).run Tryz.prog w = .ok (.enter 246 args) w:=enters_of Tryz.func246 (by kernel_rfl) rfl
  have e247:∀ args w,(callFunc 247 args).run Tryz.prog w = .ok (.enter 247 args) w:=enters_of Tryz.func247 (by kernel_rfl) rfl
  have e248:∀ args w,(callFunc 248 args).run Tryz.prog w = .ok (.enter 248 args) w:=enters_of Tryz.func248 (by kernel_rfl) rfl
  by_cases hs:u<100
  · go_enter Tryz.func186,Tryz.ntmps186
    go_wp2_with (go_at_fn 246;refine (Tryz.internal_strconv_small u hs _).mono ?_;rintro e w' ⟨rfl,rfl⟩)
    go_ret
    exact⟨rfl,0,#[],by simp[World.drewN_zero]⟩
  · have hu1:1<=u:=by omega
    have hnd20:Lib.nDigits u<=20:=Lib.nDigits_le20 u hu64
    have hb3:Lib.nDigits u<=24:=by omega
    have hal:Tryz.prog.arrayLen 349=24:=by simp[Program.arrayLen,Tryz.underlying349]
    have hsl1:∀ W,(Instr.sliceAt 349 (.pointer (some ⟨w.heap.size,0,none⟩)) none (some (.int .i64 (Lib.nDigits u:Int))) none).run Tryz.prog W = .ok (.slice (some ⟨w.heap.size,0,none⟩) (Lib.nDigits u) 24) W:=fun W=>by
      rw[run_sliceAt_array_h W 349 ⟨w.heap.size,0,none⟩ (by simp[Program.arrayLen,Program.elem,Tryz.underlying349]) .i64 (Lib.nDigits u:Int) (by omega) (by rw[hal];omega)]
      go_simp
    have hH0:=Lib.holds_zero0 w 349 (Lib.nDigits u) (by omega)
    have hfmt:=Tryz.internal_strconv_formatBase10 w.heap.size 0 24 u (Array.replicate (Lib.nDigits u) 0) (w.alloc (.cells Lib.zeros24 349)) hH0 (by rw[Array.size_replicate];exact Lib.lt_pow_nDigits u) hu64 (by rw[Array.size_replicate];omega)
    rw[Array.size_replicate] at hfmt
    have HH0:=Lib.hid hH0
    clear hH0 hal
    go_enter Tryz.func186,Tryz.ntmps186
    go_wp2_with (first
      |(go_at_fn 247;refine (Tryz.internal_strconv_numDigits u hu1 hu64 _ (Lib.tabIs_alloc htab _)).mono ?_;rintro e w' ⟨rfl,rfl⟩))
    go_at_fn 248
    refine hfmt.mono ?_
    rintro e w' ⟨rfl,k,v',dk,rfl,hF⟩
    have hcv:(convert 193 9 (.slice (some ⟨w.heap.size,0,none⟩) (Lib.nDigits u) 24)).run Tryz.prog ((putRow (fun (b:UInt8)=>Value.int .u8 (b.toNat:Int)) (w.alloc (.cells Lib.zeros24 349)) w.heap.size 0 dk).drewN k) = .ok (.string ⟨(Lib.decDigits u).toArray⟩) ((putRow (fun (b:UInt8)=>Value.int .u8 (b.toNat:Int)) (w.alloc (.cells Lib.zeros24 349)) w.heap.size 0 dk).drewN k):=by
      have h:=run_convert_bytes_back (P:=Tryz.prog) ((putRow (fun (b:UInt8)=>Value.int .u8 (b.toNat:Int)) (w.alloc (.cells Lib.zeros24 349)) w.heap.size 0 dk).drewN k) 193 9 5 ⟨w.heap.size,0,none⟩ 24 (Lib.decDigits u) Tryz.underlying193 Tryz.underlying5 Tryz.underlying9 (fun j hj=>by
        rw[Lib.row_is_numeral hF j hj,Lib.add_plain,World.cell?_drewN]
        exact cell?_putRow (fun (b:UInt8)=>Value.int .u8 (b.toNat:Int)) _ w.heap.size 0 _ dk HH0.out (by rw[hF.size,Array.size_replicate]) j (by rw[hF.size];rw[Lib.decDigits_length] at hj;exact hj))
      rw[Lib.decDigits_length] at h
      exact h
    go_wp2
    go_ret
    obtain⟨os,eo⟩:=Lib.fin_at w (.cells Lib.zeros24 349) dk k 0
    exact⟨rfl,k,os,eo⟩
theorem Tryz.FU (u:Nat) (hu64:u<18446744073709551616) (w:World) (htab:Lib.TabIs Tryz.prog w "internal/strconv.uint64pow10" .u64 Lib.pow10Tab) :
    Calls Tryz.prog 98 #[.int .u64 u, .int .i64 10] w fun e w'=>e = .returned (.string ⟨(Lib.decDigits u).toArray⟩)/\∃ k os,w'=grow (w.drewN k) os:=by
  have e186:∀ args w,(callFunc 186 args).run Tryz.prog w = .ok (.enter 186 args) w:=enters_of Tryz.func186 (by kernel_rfl) rfl
  go_enter Tryz.func98,Tryz.ntmps98
  go_wp2_with (go_at_fn 186;refine (Tryz.FU0 u hu64 _ htab).mono ?_;rintro e w' ⟨rfl,k,os,rfl⟩)
  go_ret
  exact⟨rfl,k,os,rfl⟩
end Go.Proofs
namespace Go.SW
open Go.Proofs Go.RowKit
theorem strconv_FUC (n:Int) {H:Hp} (hg:GPow H 1) (hr:0<=n/\n<=18446744073709551615) {N:Rest} {L:Ls} {w:World} (hm:Mem N H L w):Calls Tryz.prog 98 #[.int .u64 n, .int .i64 10] w fun e w'=>e = .returned (str (V.decB n))/\Below w.heap.size w w':=by
  obtain⟨u,rfl⟩:∃ u:Nat,n=u:=⟨n.toNat,by omega⟩
  refine (Tryz.FU u (by omega) w (hg.tab hm (by kernel_rfl))).mono fun e w' ⟨he,k,os,hw⟩=>⟨?_,hw ▸ Lib.below_grow _ _ (Nat.le_refl _) _ _⟩
  rw[he,V.decB_eq,if_pos hr,Int.toNat_natCast];rfl
theorem strconv_IAC (n:Int) {H:Hp} (hg:GPow H 1) (hr:-9223372036854775808<=n/\n<=9223372036854775807) {N:Rest} {L:Ls} {w:World} (hm:Mem N H L w):Calls Tryz.prog 58 #[.int .i64 n] w fun e w'=>e = .returned (str (V.itoB n))/\Below w.heap.size w w':=by
  refine (Tryz.strconv_Itoa n hr.1 hr.2 w (hg.tab hm (by kernel_rfl))).mono fun e w' ⟨he,k,os,hw⟩=>⟨?_,hw ▸ Lib.below_grow _ _ (Nat.le_refl _) _ _⟩
  rw[he,V.itoB_eq,if_pos hr];rfl
end Go.SW
namespace Go.Proofs
open Go.Shelf
def Tryz.lays229_ren:Go.Shelf.Ren:=⟨fun|229=>327|n=>n,fun|9=>9|40=>413|31=>106|152=>424|3=>3|0=>0|4=>4|21=>21|154=>426|n=>n,fun|n=>n⟩
theorem Tryz.lays229:Go.Proofs.Lays.n229 Tryz.prog Tryz.lays229_ren:={
  mixed:=by kernel_rfl
  f229:=Tryz.func327.trans (congrArg some (by kernel_rfl))
  t0:=Tryz.underlying0
  a0:=Tryz.isAgg0
  z0:=Tryz.sizeOf0
  v0:=Tryz.zeroValue0
  t3:=Tryz.underlying3
  a3:=Tryz.isAgg3
  z3:=Tryz.sizeOf3
  v3:=Tryz.zeroValue3
  t4:=Tryz.underlying4
  a4:=Tryz.isAgg4
  z4:=Tryz.sizeOf4
  v4:=Tryz.zeroValue4
  t9:=Tryz.underlying9
  a9:=Tryz.isAgg9
  z9:=Tryz.sizeOf9
  v9:=Tryz.zeroValue9
  t21:=Tryz.underlying21
  a21:=Tryz.isAgg21
  z21:=Tryz.sizeOf21
  v21:=Tryz.zeroValue21
  t31:=Tryz.underlying106
  a31:=Tryz.isAgg106
  z31:=Tryz.sizeOf106
  v31:=Tryz.zeroValue106
  t40:=Tryz.underlying413
  a40:=Tryz.isAgg413
  z40:=Tryz.sizeOf413
  v40:=Tryz.zeroValue413
  t152:=Tryz.underlying424
  a152:=Tryz.isAgg424
  z152:=Tryz.sizeOf424
  v152:=Tryz.zeroValue424
  t154:=Tryz.underlying426
  a154:=Tryz.isAgg426
  z154:=Tryz.sizeOf426
  v154:=Tryz.zeroValue426}
open Go.RowKit Go.Lib in
theorem Tryz.strings_FieldsFunc (g:Nat) (lb:Array Value) (eg:∀ args w,(callFunc g args).run Tryz.prog w = .ok (.enter g args) w) (p:Nat->Bool) (s:ByteArray) (w:World) (hs:s.size<=4294967296) (hp:PredAt Tryz.prog g lb encR p w) :
    Calls Tryz.prog 327 #[.string s, .func (.func g) #[] lb] w fun e w'=>∃ A,e = .returned (.slice (some ⟨A,0,none⟩) (Lib.goFieldsP p s).length (Lib.goFieldsP p s).length)/\w.heap.size<=A /\
      w'.ownsRow w.heap.size 9 1 (.slice (some ⟨A,0,none⟩) (Lib.goFieldsP p s).length (Lib.goFieldsP p s).length) (Lib.goFieldsP p s).length ((Lib.goFieldsP p s).map Value.string)/\Below w.heap.size w w':=Any.strings_FieldsFunc Tryz.lays229 g lb eg p s w hs hp (by kernel_rfl) (by kernel_rfl)
def Tryz.laysPu14_ren:Go.Shelf.Ren:=⟨fun|14=>355|16=>366|17=>367|19=>370|20=>371|21=>372|22=>373|23=>374|24=>375|25=>376|27=>58|26=>377|28=>141|29=>227|30=>246|31=>247|32=>248|33=>249|35=>289|34=>288|36=>290|37=>291|38=>292|39=>320|40=>321|n=>n,fun|9=>9|3=>3|22=>22|24=>198|25=>436|4=>4|34=>448|5=>5|36=>277|37=>193|0=>0|39=>450|21=>21|44=>454|47=>289|50=>458|48=>456|2=>2|52=>349|55=>352|59=>388|60=>125|20=>20|61=>389|65=>420|66=>421|67=>175|n=>n,fun|0=>6|1=>7|2=>1|3=>2|4=>3|n=>n⟩
theorem Tryz.laysPu14:Go.Proofs.LaysPu.n14 Tryz.prog Tryz.laysPu14_ren:={
  mixed:=by kernel_rfl
  f14:=Tryz.func355.trans (congrArg some (by kernel_rfl))
  f16:=Tryz.func366.trans (congrArg some (by kernel_rfl))
  f17:=Tryz.func367.trans (congrArg some (by kernel_rfl))
  f19:=Tryz.func370.trans (congrArg some (by kernel_rfl))
  f20:=Tryz.func371.trans (congrArg some (by kernel_rfl))
  f21:=Tryz.func372.trans (congrArg some (by kernel_rfl))
  f22:=Tryz.func373.trans (congrArg some (by kernel_rfl))
  f23:=Tryz.func374.trans (congrArg some (by kernel_rfl))
  f24:=Tryz.func375.trans (congrArg some (by kernel_rfl))
  f25:=Tryz.func376.trans (congrArg some (by kernel_rfl))
  f26:=Tryz.func377.trans (congrArg some (by kernel_rfl))
  f27:=Tryz.func58.trans (congrArg some (by kernel_rfl))
  f28:=Tryz.func141.trans (congrArg some (by kernel_rfl))
  f29:=Tryz.func227.trans (congrArg some (by kernel_rfl))
  f30:=Tryz.func246.trans (congrArg some (by kernel_rfl))
  f31:=Tryz.func247.trans (congrArg some (by kernel_rfl))
  f32:=Tryz.func248.trans (congrArg some (by kernel_rfl))
  f33:=Tryz.func249.trans (congrArg some (by kernel_rfl))
  f34:=Tryz.func288.trans (congrArg some (by kernel_rfl))
  f35:=Tryz.func289.trans (congrArg some (by kernel_rfl))
  f36:=Tryz.func290.trans (congrArg some (by kernel_rfl))
  f37:=Tryz.func291.trans (congrArg some (by kernel_rfl))
  f38:=Tryz.func292.trans (congrArg some (by kernel_rfl))
  f39:=Tryz.func320.trans (congrArg some (by kernel_rfl))
  f40:=Tryz.func321.trans (congrArg some (by kernel_rfl))
  t0:=Tryz.underlying0
  a0:=Tryz.isAgg0
  z0:=Tryz.sizeOf0
  v0:=Tryz.zeroValue0
  i0:=by kernel_rfl
  t2:=Tryz.underlying2
  a2:=Tryz.isAgg2
  z2:=Tryz.sizeOf2
  v2:=Tryz.zeroValue2
  i2:=by kernel_rfl
  t3:=Tryz.underlying3
  a3:=Tryz.isAgg3
  z3:=Tryz.sizeOf3
  v3:=Tryz.zeroValue3
  i3:=by kernel_rfl
  t4:=Tryz.underlying4
  a4:=Tryz.isAgg4
  z4:=Tryz.sizeOf4
  v4:=Tryz.zeroValue4
  i4:=by kernel_rfl
  t5:=Tryz.underlying5
  a5:=Tryz.isAgg5
  z5:=Tryz.sizeOf5
  v5:=Tryz.zeroValue5
  i5:=by kernel_rfl
  t9:=Tryz.underlying9
  a9:=Tryz.isAgg9
  z9:=Tryz.sizeOf9
  v9:=Tryz.zeroValue9
  i9:=by kernel_rfl
  t20:=Tryz.underlying20
  a20:=Tryz.isAgg20
  z20:=Tryz.sizeOf20
  v20:=Tryz.zeroValue20
  i20:=by kernel_rfl
  t21:=Tryz.underlying21
  a21:=Tryz.isAgg21
  z21:=Tryz.sizeOf21
  v21:=Tryz.zeroValue21
  i21:=by kernel_rfl
  t22:=Tryz.underlying22
  a22:=Tryz.isAgg22
  z22:=Tryz.sizeOf22
  v22:=Tryz.zeroValue22
  i22:=by kernel_rfl
  t24:=Tryz.underlying198
  a24:=Tryz.isAgg198
  z24:=Tryz.sizeOf198
  v24:=Tryz.zeroValue198
  i24:=by kernel_rfl
  t25:=Tryz.underlying436
  a25:=Tryz.isAgg436
  z25:=Tryz.sizeOf436
  v25:=Tryz.zeroValue436
  i25:=by kernel_rfl
  t34:=Tryz.underlying448
  a34:=Tryz.isAgg448
  z34:=Tryz.sizeOf448
  v34:=Tryz.zeroValue448
  i34:=by kernel_rfl
  c34:=by kernel_rfl
  t36:=Tryz.underlying277
  a36:=Tryz.isAgg277
  z36:=Tryz.sizeOf277
  v36:=Tryz.zeroValue277
  i36:=by kernel_rfl
  t37:=Tryz.underlying193
  a37:=Tryz.isAgg193
  z37:=Tryz.sizeOf193
  v37:=Tryz.zeroValue193
  i37:=by kernel_rfl
  t39:=Tryz.underlying450
  a39:=Tryz.isAgg450
  z39:=Tryz.sizeOf450
  v39:=Tryz.zeroValue450
  i39:=by kernel_rfl
  t44:=Tryz.underlying454
  a44:=Tryz.isAgg454
  z44:=Tryz.sizeOf454
  v44:=Tryz.zeroValue454
  i44:=by kernel_rfl
  t47:=Tryz.underlying289
  a47:=Tryz.isAgg289
  z47:=Tryz.sizeOf289
  v47:=Tryz.zeroValue289
  i47:=by kernel_rfl
  t48:=Tryz.underlying456
  a48:=Tryz.isAgg456
  z48:=Tryz.sizeOf456
  v48:=Tryz.zeroValue456
  i48:=by kernel_rfl
  t50:=Tryz.underlying458
  a50:=Tryz.isAgg458
  z50:=Tryz.sizeOf458
  v50:=Tryz.zeroValue458
  i50:=by kernel_rfl
  t52:=Tryz.underlying349
  a52:=Tryz.isAgg349
  z52:=Tryz.sizeOf349
  v52:=Tryz.zeroValue349
  i52:=by kernel_rfl
  t55:=Tryz.underlying352
  a55:=Tryz.isAgg352
  z55:=Tryz.sizeOf352
  v55:=Tryz.zeroValue352
  i55:=by kernel_rfl
  t59:=Tryz.underlying388
  a59:=Tryz.isAgg388
  z59:=Tryz.sizeOf388
  v59:=Tryz.zeroValue388
  i59:=by kernel_rfl
  t60:=Tryz.underlying125
  a60:=Tryz.isAgg125
  z60:=Tryz.sizeOf125
  v60:=Tryz.zeroValue125
  i60:=by kernel_rfl
  t61:=Tryz.underlying389
  a61:=Tryz.isAgg389
  z61:=Tryz.sizeOf389
  t65:=Tryz.underlying420
  a65:=Tryz.isAgg420
  z65:=Tryz.sizeOf420
  v65:=Tryz.zeroValue420
  i65:=by kernel_rfl
  t66:=Tryz.underlying421
  a66:=Tryz.isAgg421
  z66:=Tryz.sizeOf421
  v66:=Tryz.zeroValue421
  i66:=by kernel_rfl
  t67:=Tryz.underlying175
  a67:=Tryz.isAgg175
  z67:=Tryz.sizeOf175
  v67:=Tryz.zeroValue175
  i67:=by kernel_rfl
  g0:=by kernel_rfl
  m0:=by kernel_rfl
  g1:=by kernel_rfl
  m1:=by kernel_rfl
  g2:=by kernel_rfl
  m2:=by kernel_rfl
  g3:=by kernel_rfl
  m3:=by kernel_rfl
  g4:=by kernel_rfl
  m4:=by kernel_rfl}
open Go.RowKit Go.Lib in
theorem Tryz.strconv_ParseUint_10_at64_ok (s:ByteArray) (hmax:s.size<=9223372036854775806) (u:Nat) (h:Lib.parseUintB 64 s.data.toList = .ok u) (w:World) :
    Calls Tryz.prog 355 #[.string s, .int .i64 10, .int .i64 64] w fun e w'=>e = .returned (.tuple #[.int .u64 u, .nilIface])/\(w'=w\/w'=Lib.bytesWorld w 5 s):=Any.strconv_ParseUint_10_at64_ok Tryz.laysPu14 s hmax u h w
open Go.RowKit Go.Lib in
theorem Tryz.isBlank (w:World):PredAt Tryz.prog 328 #[] encR (fun r=>decide ((r:Int)=32)) w:=fun W r _=>by
  unfold FnGives
  go_enter Tryz.func328,Tryz.ntmps328
  go_wp2
  go_ret
  exact⟨rfl,0,rfl⟩
end Go.Proofs
namespace Go.SW
open Go.Proofs Go.RowKit
theorem strings_Flds (H:Hp) (s:Bs) (hs:s.length<=65536):Ph Tryz.prog 327 #[str s, .func (.func 328) #[] #[]] H (fun v H'=>∃ (a:Option Addr) (c:Nat),v = .slice a (flds s).length c/\SlH strE 1 H' (.slice a (flds s).length c) (flds s)):=by
  refine ph_rowB (T:=9) (flds_str s) (fun w hw=>by have :=flds_piece s w hw;omega) fun N L w hm=>?_
  have :=Tryz.strings_FieldsFunc 328 #[] (enters_of Tryz.func328 (by kernel_rfl) rfl) _ ⟨s.toArray⟩ w (by simp[ByteArray.size];omega) (Tryz.isBlank w)
  refine this.mono fun e w' ⟨A,h1,h2,h3,h4⟩=>⟨A,?_,h2,?_,h4⟩
  · rw[h1,List.length_map]
  · rw[List.length_map];exact h3
theorem strconv_PU (s:Bs) (hl:s.length<=19) (h0:0<s.length) (hd:G3_ s=true) (w:World):Calls Tryz.prog 355 #[str s, .int .i64 10, .int .i64 64] w fun e w'=>e = .returned (.tuple #[.int .u64 (dec s:Int), .nilIface])/\Below w.heap.size w w':=by
  refine (Tryz.strconv_ParseUint_10_at64_ok ⟨s.toArray⟩ (by simp[ByteArray.size];omega) (dec s) (dec_ok hl h0 hd).1 w).mono fun e w' ⟨he,hw⟩=>⟨he,?_⟩
  rcases hw with rfl|rfl
  · exact Below.refl _ _
  · exact Go.Joins.below_bytesWorld _ _ _ _ (Nat.le_refl _)
end Go.SW
namespace Go.Proofs
open Go.Shelf
def Tryz.lays146_ren:Go.Shelf.Ren:=⟨fun|146=>310|221=>326|268=>341|138=>342|143=>343|195=>351|197=>352|218=>353|219=>354|260=>361|217=>362|225=>363|224=>364|267=>365|266=>368|314=>369|n=>n,fun|9=>9|31=>106|3=>3|4=>4|0=>0|105=>433|21=>21|5=>5|46=>277|119=>442|139=>445|138=>444|146=>446|51=>125|n=>n,fun|1=>0|3=>4|4=>5|n=>n⟩
theorem Tryz.lays146:Go.Proofs.Lays.n146 Tryz.prog Tryz.lays146_ren:={
  mixed:=by kernel_rfl
  f138:=Tryz.func342.trans (congrArg some (by kernel_rfl))
  f143:=Tryz.func343.trans (congrArg some (by kernel_rfl))
  f146:=Tryz.func310.trans (congrArg some (by kernel_rfl))
  f195:=Tryz.func351.trans (congrArg some (by kernel_rfl))
  f197:=Tryz.func352.trans (congrArg some (by kernel_rfl))
  f217:=Tryz.func362.trans (congrArg some (by kernel_rfl))
  f218:=Tryz.func353.trans (congrArg some (by kernel_rfl))
  f219:=Tryz.func354.trans (congrArg some (by kernel_rfl))
  f221:=Tryz.func326.trans (congrArg some (by kernel_rfl))
  f224:=Tryz.func364.trans (congrArg some (by kernel_rfl))
  f225:=Tryz.func363.trans (congrArg some (by kernel_rfl))
  f260:=Tryz.func361.trans (congrArg some (by kernel_rfl))
  f266:=Tryz.func368.trans (congrArg some (by kernel_rfl))
  f267:=Tryz.func365.trans (congrArg some (by kernel_rfl))
  f268:=Tryz.func341.trans (congrArg some (by kernel_rfl))
  f314:=Tryz.func369.trans (congrArg some (by kernel_rfl))
  t0:=Tryz.underlying0
  a0:=Tryz.isAgg0
  z0:=Tryz.sizeOf0
  v0:=Tryz.zeroValue0
  t3:=Tryz.underlying3
  a3:=Tryz.isAgg3
  z3:=Tryz.sizeOf3
  v3:=Tryz.zeroValue3
  t4:=Tryz.underlying4
  a4:=Tryz.isAgg4
  z4:=Tryz.sizeOf4
  v4:=Tryz.zeroValue4
  t5:=Tryz.underlying5
  a5:=Tryz.isAgg5
  z5:=Tryz.sizeOf5
  v5:=Tryz.zeroValue5
  t9:=Tryz.underlying9
  a9:=Tryz.isAgg9
  z9:=Tryz.sizeOf9
  v9:=Tryz.zeroValue9
  t21:=Tryz.underlying21
  a21:=Tryz.isAgg21
  z21:=Tryz.sizeOf21
  v21:=Tryz.zeroValue21
  t31:=Tryz.underlying106
  a31:=Tryz.isAgg106
  z31:=Tryz.sizeOf106
  v31:=Tryz.zeroValue106
  t46:=Tryz.underlying277
  a46:=Tryz.isAgg277
  z46:=Tryz.sizeOf277
  v46:=Tryz.zeroValue277
  t51:=Tryz.underlying125
  a51:=Tryz.isAgg125
  z51:=Tryz.sizeOf125
  v51:=Tryz.zeroValue125
  t105:=Tryz.underlying433
  a105:=Tryz.isAgg433
  z105:=Tryz.sizeOf433
  v105:=Tryz.zeroValue433
  t119:=Tryz.underlying442
  a119:=Tryz.isAgg442
  z119:=Tryz.sizeOf442
  t138:=Tryz.underlying444
  a138:=Tryz.isAgg444
  z138:=Tryz.sizeOf444
  v138:=Tryz.zeroValue444
  t139:=Tryz.underlying445
  a139:=Tryz.isAgg445
  z139:=Tryz.sizeOf445
  v139:=Tryz.zeroValue445
  t146:=Tryz.underlying446
  a146:=Tryz.isAgg446
  z146:=Tryz.sizeOf446
  v146:=Tryz.zeroValue446
  g1:=by kernel_rfl
  g3:=by kernel_rfl
  g4:=by kernel_rfl}
open Go.RowKit Go.Lib in
theorem Tryz.strings_Split (s sep:ByteArray) (m:Int) (w:World) (hs:s.size<4294967281) (hm:w.cell? ⟨0,0,none⟩=some (.int .i64 m)) (h1:1<=sep.size) :
    Calls Tryz.prog 310 #[.string s, .string sep] w fun e w'=>
      e = .returned (.slice (some ⟨w.heap.size,0,none⟩) (Lib.countB s sep+1) (Lib.countB s sep+1))/\w'=w.alloc (.cells ((Lib.splitB sep 0 (Lib.countB s sep) s).map Value.string).toArray 9):=Any.strings_Split Tryz.lays146 (by kernel_rfl) s sep m w hs hm h1
end Go.Proofs
namespace Go.SW
open Go.Proofs
theorem strings_Split (H:Hp) (s p:Bs) (hp:p=[46]) (hML:GInt H 0) (hs:s.length<4294967281):Ph Tryz.prog 310 #[str s,str p] H (fun v H'=>∃ (a:Option Addr) (c:Nat),v = .slice a (dots s).length c/\SlH strE 1 H' (.slice a (dots s).length c) (dots s)):=by
  subst hp
  refine ph_strs (T:=9) (fun w hw=>by have :=Pq_ s w hw;omega) fun N L w hm=>?_
  obtain⟨m,hc⟩:=hML.cell hm
  refine (Tryz.strings_Split ⟨s.toArray⟩ ⟨#[46]⟩ m w (by simpa [Jm_] using hs) hc (by decide)).mono fun e w' ⟨he,hw⟩=>⟨?_,?_⟩
  · rw[he,Up_]
  · rw[hw,Tl_]
theorem strings_SplitL (H:Hp) (s p:Bs) (hp:p=[10]) (hML:GInt H 0) (hs:s.length<4294967281):Ph Tryz.prog 310 #[str s,str p] H (fun v H'=>∃ (a:Option Addr) (c:Nat),v = .slice a (cuts 10 s).length c/\SlH strE 1 H' (.slice a (cuts 10 s).length c) (cuts 10 s)):=by
  subst hp
  refine ph_strs (T:=9) (fun w hw=>by have :=Po_ 10 s w hw;omega) fun N L w hm=>?_
  obtain⟨m,hc⟩:=hML.cell hm
  refine (Tryz.strings_Split ⟨s.toArray⟩ ⟨#[10]⟩ m w (by simpa [Jm_] using hs) hc (by decide)).mono fun e w' ⟨he,hw⟩=>⟨?_,?_⟩
  · rw[he,splitB_clen]
  · rw[hw,Tk_]
theorem ag192:Ag Tryz.prog 192 false:=fun w=>by kernel_rfl
theorem ag9:Ag Tryz.prog 9 false:=fun w=>by kernel_rfl
theorem cb184:U_ Tryz.prog 184:=P_ Tryz.func184 (by kernel_rfl) (by kernel_rfl)
theorem Zc_:Fld Tryz.prog 195 0 0:=fun b o w=>by kernel_rfl
theorem la195_195:liesAt Tryz.prog Tryz.prog.depth 195 (2/Tryz.prog.cellsOf 195) 0 195 1=true:=by kernel_rfl
theorem ne244:NoEsc Tryz.prog 244:=noEsc_of Tryz.func244 (by kernel_rfl) (by kernel_rfl) (by kernel_rfl) (by kernel_rfl)
theorem sz192:Sz Tryz.prog 192 1:=fun w=>by kernel_rfl
theorem sz9:Sz Tryz.prog 9 1:=fun w=>by kernel_rfl
theorem ti195:∃ j,Tryz.prog.info? 195=some j:=Option.isSome_iff_exists.1 (by kernel_rfl)
theorem tz195:∃ j,Tryz.prog.info? 195=some j/\j.size≠0:=exInfo (by kernel_rfl)
set_option maxRecDepth 100000 in
theorem copyCheck {n:Nat} {N:Rest} {F:Fr} {H:Hp} {L:Ls} {ops:List Oper} {ty d:Nat} {pos:String} {af:Array Edge} {K:Fr->Hp->Ls->Prop} {x:Operand} {ats:Array TypeId} {b:Nat} {p v:Value} (i:Nat) (hx:ev F x = .pointer (some ⟨b,0,none⟩)) (hi:L i=some (b,bx 195 [p,v]))
    (hp:p = .pointer none\/p = .pointer (some ⟨b,0,none⟩)) (hd:Nat.blt d n=true) (k:K (upd F d (.tuple #[])) H (lupd L i (some (b,bx 195 [.pointer (some ⟨b,0,none⟩),v])))):Op1 Tryz.prog n N ops ⟨some d, .call ⟨.value (.func 184),#[x],ats⟩,ty,pos,af,none⟩ K F H L:=by
  refine op1_in (en_f (vs:=[.pointer (some ⟨b,0,none⟩)]) cb184 (by simp[evs,hx])) Tryz.func184 rfl Tryz.ntmps184 rfl hd (Iq_ (En_ (ol rfl (Ix_ (v:= .pointer (some ⟨_,_,none⟩)) rfl) (ol rfl (F5_ rfl) (ol rfl (Du_ rfl Zc_) ?_)))))
  refine ol rfl (Jx_ (i:=i) (v:=p) rfl ag192 hi rfl) ?_
  rcases hp with rfl|rfl
  · refine ol rfl (lo_pnil rfl rfl Tryz.underlying192) (Je_ (Iu_ (cw_cond_t rfl rfl (En_ (ol rfl (Ix_ (v:= .pointer (some ⟨_,_,none⟩)) rfl) ?_)))))
    refine ol rfl (Ix_ (v:= .pointer (some ⟨_,_,none⟩)) rfl) (ol rfl (Zq_ (i:=i) rfl hi rfl Tryz.underlying192 Tryz.underlying346 (tz195).choose_spec.1 (tz195).choose_spec.2) (ol rfl (lo_noEsc (v:= .pointer (some ⟨_,_,none⟩)) ne244 rfl) (ol rfl (V1_ (i:=i) rfl hi Tryz.underlying346 Tryz.underlying192 (ti195).choose_spec la195_195) (ol rfl (F5_ rfl) (ol rfl (Du_ rfl Zc_) ?_)))))
    refine ow1 (J6_ (i:=i) (v:= .pointer (some ⟨_,_,none⟩)) rfl rfl rfl sz192 hi rfl ?_)
    refine Je_ ?_
    exact fnK_n (res0 rfl) (.refl _) k
  · refine ol rfl (Uf_ rfl rfl Tryz.underlying192) (Je_ (Iu_ (Wq_ rfl rfl (Iq_ (En_ ?_)))))
    refine ol rfl (Ix_ (v:= .pointer (some ⟨_,_,none⟩)) rfl) (ol rfl (F5_ rfl) (ol rfl (Du_ rfl Zc_) (ol rfl (Jx_ (i:=i) (v:= .pointer (some ⟨b,0,none⟩)) rfl ag192 hi rfl) (ol rfl (Ix_ (v:= .pointer (some ⟨_,_,none⟩)) rfl) (ol rfl (Zo_ rfl rfl Tryz.underlying192 (ti195).choose_spec) ?_)))))
    refine Je_ (Iu_ (Wq_ rfl rfl (Y9_ (fnK_n (res0 rfl) (.refl _) ?_))))
    rwa [lupd_eta hi] at k
theorem sz5:Sz Tryz.prog 5 1:=fun w=>by kernel_rfl
theorem ag169:Ag Tryz.prog 169 true:=fun w=>by kernel_rfl
theorem ag193:Ag Tryz.prog 193 false:=fun w=>by kernel_rfl
theorem by5:By Tryz.prog 5 1:=by_of (by kernel_rfl)
theorem cb156:U_ Tryz.prog 156:=P_ Tryz.func156 (by kernel_rfl) (by kernel_rfl)
theorem cb97:U_ Tryz.prog 97:=P_ Tryz.func97 (by kernel_rfl) (by kernel_rfl)
theorem co5:Tryz.prog.cellsOf 5=1:=by kernel_rfl
theorem fl169_0:Fld Tryz.prog 169 0 0:=fun b o w=>by kernel_rfl
theorem Vf_:Fld Tryz.prog 195 1 1:=fun b o w=>by kernel_rfl
theorem mixd:Tryz.prog.follows .mixedOrders=true:=by kernel_rfl
theorem sz169:Sz Tryz.prog 169 2:=fun w=>by kernel_rfl
theorem sz193:Sz Tryz.prog 193 1:=fun w=>by kernel_rfl
theorem zr169:Zr Tryz.prog 169 [str [], .int .i64 0]:=fun w=>⟨.agg #[str [], .int .i64 0],by kernel_rfl,rfl⟩
theorem zr195:Zr Tryz.prog 195 [.pointer none, .slice none 0 0]:=fun w=>⟨.agg #[.pointer none, .slice none 0 0],by kernel_rfl,rfl⟩
theorem zr5:Zr Tryz.prog 5 [.int .u8 0]:=fun w=>⟨.int .u8 0,by kernel_rfl,rfl⟩
theorem zx5:∃ z,∀ w,(zeroValue 5).run Tryz.prog w = .ok z w:=⟨.int .u8 0,fun w=>by kernel_rfl⟩
theorem out_Num (H:Hp) (o:Out) (n:Int) (n_r:0<=n/\n<=18446744073709551615) (bytes:Int) (bytes_r:-9223372036854775808<=bytes/\bytes<=9223372036854775807) (hlen:o.s.length<=4611686018427387904):Pr Tryz.prog 73 #[.agg (Out.cells o).toArray, .int .u64 n, .int .i64 bytes] H (.agg (Out.cells (C_ o n bytes)).toArray):=by
  refine pr_cw Tryz.func73 rfl Tryz.ntmps73 rfl (fun N=>?_)
  refine Iq_ (En_ (ow1 (op1_box (cs:=[_,_]) 0 rfl rfl (fun b1=>?_))))
  refine ow1 (S2_ 1 rfl zr169 (fun b2=>?_))
  refine Je_ (Iu_ (Iq_ (En_ (ow1 (S2_ 2 rfl zr195 (fun b3=>?_))))))
  refine Je_ (Iu_ (Iq_ (Iq_ (En_ (omi rfl rfl ?_)))))
  refine ol rfl (lo_max rfl rfl) (ol rfl (lo_min rfl rfl) (ol rfl (lo_sub rfl rfl (rg_i64 (by omega))) (oai rfl rfl (Je_ (Iu_ ?_)))))
  refine U3_ ?_
  refine cw_loop5 [8,13,14,15,16,17,18,19,20,21,22] [2,3,4] (fun (j:Nat) (bs:Bs) (p:Value) (v:Value) (en:Option (Nat×Obj)) G=>upd (G) 8 (.int .i64 ((j:Int)-1))) (fun (j:Nat) (bs:Bs) (p:Value) (v:Value) (en:Option (Nat×Obj)) G=>lupd (lupd (G) 2 (some (b3,bx 195 [p,v]))) 3 (en)) (fun (j:Nat) (bs:Bs) (p:Value) (v:Value) (en:Option (Nat×Obj)) H'=>bs++numB j n.toNat=numB (numK bytes) n.toNat/\bs.length+j=numK bytes/\OwnV 1 5 v en bs.length (bs.map u8v)/\(bs.length=0->v = .slice none 0 0)/\(p = .pointer none\/p = .pointer (some ⟨b3,0,none⟩))) (fun (j:Nat) (bs:Bs) (p:Value) (v:Value) (en:Option (Nat×Obj))=>j) (numK bytes) [] (.pointer none) (.slice none 0 0) none (Y0_ (Ug_ (by first|exact off_refl|(repeat (first|exact off_mask|refine off_upd rfl ?_|refine Yc_ rfl ?_)))) (congrArg (Value.int .i64) (show min (max bytes 0) 8-1=((numK bytes:Nat):Int)-1 by unfold numK;omega))) (Ng_ (Ng_ (Su_ Yd_) rfl) rfl) ?_ ?_
  · exact⟨rfl,by simp,O7_,fun _=>rfl, .inl rfl⟩
  intro j bs p v en J5 JL5 H5 hp4 hl5
  obtain⟨hk1,hk2,ho,hz,hpp⟩:=hp4
  have hk8:numK bytes<=8:=by unfold numK;omega
  refine Iq_ (Iq_ (En_ (omi rfl rfl (ol rfl (lo_geq rfl rfl) (Je_ ?_)))))
  refine Iu_ (U4_ rfl (fun h6=>?_) (fun h6=>?_))
  · have p7:=dt h6
    refine Y9_ (Iu_ (Iq_ (U3_ (En_ (omi rfl rfl ?_)))))
    refine omi rfl rfl (ol rfl (lo_mul rfl rfl (rg_i64 (by omega))) (ol rfl (lo_shr rfl rfl (by omega)) ?_))
    have :=wr_u8 (Int.fdiv n (2 ^ (min ((8*((j:Int)-1)):Int).toNat (IntKind.bits .u64))))
    refine ol rfl (Zm_ rfl (by rw[Tryz.underlying22];rfl) Tryz.underlying5) ?_
    refine ow1 (op1_in (en_f cb156 rfl) Tryz.func156 rfl Tryz.ntmps156 rfl rfl ?_)
    refine Iq_ (En_ (ol rfl (Kd_ rfl) (Je_ (Iu_ (Iq_ ?_)))))
    refine En_ (ol rfl (Ix_ (v:= .pointer (some ⟨_,_,none⟩)) rfl) ?_)
    refine ow1 (copyCheck 2 rfl rfl hpp rfl ?_)
    refine Je_ (Iu_ (Iq_ (En_ (ol rfl (Ix_ (v:= .pointer (some ⟨_,_,none⟩)) rfl) (ol rfl (Ix_ (v:= .pointer (some ⟨_,_,none⟩)) rfl) ?_)))))
    refine ol rfl (F5_ rfl) (ol rfl (Du_ rfl Vf_) (ol rfl (Jx_ (i:=2) rfl ag193 rfl rfl) (omi rfl rfl ?_)))
    refine ow1 (Uh_ (cs:=[_]) 4 rfl Tryz.underlying193 sz5 zx5 rfl ⟨rfl,rfl,trivial⟩ rfl rfl (by decide) (fun b8=>?_))
    refine ow1 (op1_app 3 rfl rfl Tryz.underlying193 Tryz.underlying193 rfl sz5 by5 (by decide) zr5 ho (src_bx (i:=4) rfl rfl) (List.all_eq_true.1 rfl) rfl (by omega) rfl (fun v9 en10 ho11=>?_))
    have ho12:=byte_app (bs:=bs) ho11 (by first|rfl|simp) (wrap8r _)
    refine ol rfl (F5_ rfl) (ol rfl (Du_ rfl Vf_) ?_)
    refine ow1 (J6_ (i:=2) rfl rfl (ownV_one ho12) sz193 rfl rfl ?_)
    refine Je_ (Iu_ (Iq_ (En_ (ol rfl (Kd_ rfl) (Je_ ?_)))))
    refine Iu_ (cw_ret (fnK_r (res1 rfl (rv_t rfl)) (.refl _) (Je_ (blkK_n (Iu_ ?_)))))
    refine En_ (omi rfl rfl (ol rfl (lo_sub rfl rfl (rg_i64 (by omega))) (oai rfl rfl (Je_ ?_))))
    refine next5 (j-1) (bs++[UInt8.ofNat ((IntKind.wrap .u8 (Int.fdiv n (2 ^ (min ((8*((j:Int)-1)):Int).toNat (IntKind.bits .u64)))))).toNat]) (.pointer (some ⟨b3,0,none⟩)) v9 en10 (Y0_ (Ug_ (by first|exact off_refl|(repeat (first|exact off_mask|refine off_upd rfl ?_|refine Yc_ rfl ?_)))) (congrArg (Value.int .i64) (show ((j:Int)-1)-1=((j-1:Nat):Int)-1 by omega))) (Ng_ (Ng_ (Su_ (by first|exact Yd_|(repeat (first|exact offl_mask|refine offl_upd rfl ?_|refine offl_mask2 rfl ?_)))) rfl) rfl) hl5 ?_ ?_
    · refine⟨?_,?_,ho12,(nz_of ho12 (by simp)), .inr rfl⟩
      · rw[byte_of n_r.1 (by omega) (by omega),List.append_assoc,<- hk1]
        obtain⟨q,rfl⟩:∃ q,j=q+1:=⟨j-1,by omega⟩
        simp[numB]
      simp;omega
    omega
  have p13:=df h6
  refine cw_exit (seqK_e (loopK_e (blkK_hit (Iu_ (Iq_ ?_)))))
  refine cw_anyX 3 mixd (vw_q 0 rfl (by kernel_rfl) (by repeat (first|exact Is_|exact LLe.refl _|exact Fs_|refine Jb_ ?_ rfl)) (fun _ _ hh hl=>Du_ rfl fl169_0) ?_)
  refine vw_q 1 rfl (by kernel_rfl) (by repeat (first|exact Is_|exact LLe.refl _|exact Fs_|refine Jb_ ?_ rfl)) (fun _ _ hh hl=>Jx_ (i:=0) (v:=str _) rfl ag9 (hl _ _ rfl) rfl) ?_
  refine vw_e 2 rfl (by kernel_rfl) (op1_in (en_f cb97 rfl) Tryz.func97 rfl Tryz.ntmps97 rfl rfl ?_)
  refine Iq_ (En_ (ol rfl (Kd_ (v:=str _) rfl) (Je_ (Iu_ (Iq_ ?_)))))
  refine cw_anyX 3 mixd ?_
  refine vw_q 0 rfl (by kernel_rfl) (by repeat (first|exact Is_|exact LLe.refl _|exact Fs_|refine Jb_ ?_ rfl)) (fun _ _ hh hl=>Ix_ (v:= .pointer (some ⟨_,_,none⟩)) rfl) ?_
  refine vw_q 1 rfl (by kernel_rfl) (by repeat (first|exact Is_|exact LLe.refl _|exact Fs_|refine Jb_ ?_ rfl)) (fun _ _ hh hl=>F5_ rfl) ?_
  refine vw_q 2 rfl (by kernel_rfl) (by repeat (first|exact Is_|exact LLe.refl _|exact Fs_|refine Jb_ ?_ rfl)) (fun _ _ hh hl=>Du_ rfl Vf_) ?_
  refine vw_q 3 rfl (by kernel_rfl) (by repeat (first|exact Is_|exact LLe.refl _|exact Fs_|refine Jb_ ?_ rfl)) (fun _ _ hh hl=>Jx_ (i:=2) rfl ag193 (hl _ _ rfl) rfl) ?_
  refine vw_q 4 rfl (by kernel_rfl) (by repeat (first|exact Is_|exact LLe.refl _|exact Fs_|refine Jb_ ?_ rfl)) (fun _ _ hh hl=>lo_usd rfl ho hz) ?_
  refine vw_q 5 rfl (by kernel_rfl) (by repeat (first|exact Is_|exact LLe.refl _|exact Fs_|refine Jb_ ?_ rfl)) (fun _ _ hh hl=>Ix_ (v:= .pointer (some ⟨_,_,none⟩)) rfl) ?_
  refine vw_q 6 rfl (by kernel_rfl) (by repeat (first|exact Is_|exact LLe.refl _|exact Fs_|refine Jb_ ?_ rfl)) (fun _ _ hh hl=>F5_ rfl) ?_
  refine vw_q 7 rfl (by kernel_rfl) (by repeat (first|exact Is_|exact LLe.refl _|exact Fs_|refine Jb_ ?_ rfl)) (fun _ _ hh hl=>Du_ rfl Vf_) ?_
  refine vw_q 8 rfl (by kernel_rfl) (by repeat (first|exact Is_|exact LLe.refl _|exact Fs_|refine Jb_ ?_ rfl)) (fun _ _ hh hl=>Jx_ (i:=2) rfl ag193 (hl _ _ rfl) rfl) ?_
  refine vw_q 9 rfl (by kernel_rfl) (by repeat (first|exact Is_|exact LLe.refl _|exact Fs_|refine Jb_ ?_ rfl)) (fun _ _ hh hl=>Ue_ rfl ho Tryz.underlying193) ?_
  refine vw_e 10 rfl (by kernel_rfl) (op1_ustr (l:=bs) 3 rfl rfl Tryz.underlying289 co5 ho hz (by have hq:=Q_ (numK bytes) n.toNat;simp[numK] at *;omega) rfl ?_)
  refine⟨⟨(.refl _),(by repeat (first|exact Is_|exact LLe.refl _|exact Fs_|refine Jb_ ?_ rfl))⟩,?_⟩
  refine vw_q 11 rfl (by kernel_rfl) (by repeat (first|exact Is_|exact LLe.refl _|exact Fs_|refine Jb_ ?_ rfl)) (fun _ _ hh hl=>Kd_ (v:=str _) rfl) ?_
  refine vw_done (by kernel_rfl) (Iu_ (cw_ret (fnK_r (res1 rfl (rv_t (v:=str _) rfl)) (.refl _) ?_)))
  refine⟨⟨(.refl _),(by repeat (first|exact Is_|exact LLe.refl _|exact Fs_|refine Jb_ ?_ rfl))⟩,?_⟩
  refine vw_q 3 rfl (by kernel_rfl) (by repeat (first|exact Is_|exact LLe.refl _|exact Fs_|refine Jb_ ?_ rfl)) (fun _ _ hh hl=>lo_cat rfl rfl (by have hq:=Q_ (numK bytes) n.toNat;simp[numK] at *;omega)) ?_
  refine vw_q 4 rfl (by kernel_rfl) (by repeat (first|exact Is_|exact LLe.refl _|exact Fs_|refine Jb_ ?_ rfl)) (fun _ _ hh hl=>Du_ rfl fl169_0) ?_
  refine vw_t 5 rfl (by kernel_rfl) (by kernel_rfl) (J6_ (i:=0) (v:=str _) rfl rfl rfl sz9 rfl rfl ?_)
  refine vw_done (by kernel_rfl) (Iu_ (Iq_ (En_ (ol rfl (Q9_ (i:=0) (vs:=[_,_]) rfl ag169 sz169 rfl rfl rfl) ?_))))
  refine ow1 (Ui_ (i:=1) (vs:=[_,_]) rfl rfl rfl sz169 rfl rfl rfl ?_)
  refine Je_ (Iu_ (cw_ret (fnK_r (res1 rfl (rv_c (i:=1) (vs:=[_,_]) rfl ag169 sz169 rfl rfl rfl)) ((HLe.refl _).trans hl5) ?_)))
  obtain rfl :j=0:=by omega
  simp only[numB,List.append_nil] at hk1
  subst hk1
  rfl
end Go.SW
namespace Go.SW.V
open Go.SW Go.Proofs
def gb:Gb:=⟨fun H=>GInt H 0/\GPow H 1,fun H H' hl h=>⟨h.1.mono hl,h.2.mono hl⟩⟩
theorem gbML {H:Hp} (h:gb.p H):GInt H 0:=h.1
theorem gbPow {H:Hp} (h:gb.p H):GPow H 1:=h.2
abbrev ty9:TI:=⟨.str,1,16,[.str []]⟩
def tbv1:Tb:=[(9,ty9)]
theorem tv1:tbB Tryz.prog tbv1=true:=by kernel_rfl
theorem Yo_ (c:Int):Fn Tryz.prog gb 187 [.int .u8 c] (.bool (letter c)):=by
  refine fC Tryz.func187 tv1 Tryz.ntmps187 fun w N H hG=>?_;refine gy tv1 33 ?_;refine rt1 rfl rfl (ple ?_)
  simp[letter, *]
theorem Tr_ (s:Bs):Fn Tryz.prog gb 190 [.str s] (.bool (plain s)):=by
  refine fC Tryz.func190 tv1 Tryz.ntmps190 fun w N H hG=>?_;have s_l:s.length<=9223372036854775807:=w.1;refine gx tv1 14 ?_;refine loop (ι:=Nat) [0,5,6] [] (fun k=>[(7, .int .i64 (k:Int))]) (fun k=>[]) (fun k=>k<=s.length/\(s.drop k).all (fun c=>letter c.toNat)=plain s) (fun k=>s.length-k) 0 ⟨rfl,trivial⟩ trivial ?_ ?_
  · exact⟨by omega,rfl⟩
  rintro k hp1;obtain⟨hk1,hk2⟩:=hp1;refine gx tv1 6 ?_;refine cn rfl (fun p3=>?_) fun p21=>?_
  · have :=u8r (s.getD k 0);refine gx tv1 14 ?_;refine q1 (sidx tv1 k rfl rfl rfl rfl rfl (by omega)) rfl fun w4=>?_;refine gy tv1 16 ?_;refine cnd rfl (fun h5=>?_) (fun h5=>?_)
    · have h6:=bl h5;have p7:=dt h6;have h8:=br h5;have p9:=dt h8;refine gx tv1 2 ?_;refine cndT rfl h5 ?_;refine gy tv1 8 ?_;refine next (k+1) rfl rfl ⟨rfl,trivial⟩ trivial ?_ ?_
      · omega
      exact⟨by omega,by rw[<- hk2,J8_ (k:=k) (by omega),List.all_cons];generalize ((s.getD k 0).toNat:Int)=z at *;simp[letter, *]⟩
    refine gy tv1 11 ?_;refine cnd rfl (fun h10=>?_) (fun h10=>?_)
    · have h11:=bl h10;have p12:=dt h11;have h13:=br h10;have p14:=dt h13;refine gx tv1 2 ?_;refine cndT rfl h10 ?_;refine gy tv1 8 ?_;refine next (k+1) rfl rfl ⟨rfl,trivial⟩ trivial ?_ ?_
      · omega
      exact⟨by omega,by rw[<- hk2,J8_ (k:=k) (by omega),List.all_cons];generalize ((s.getD k 0).toNat:Int)=z at *;simp[letter, *]⟩
    refine gx tv1 7 ?_;refine cnd rfl (fun h15=>?_) (fun h15=>?_)
    · have p16:=dt h15;refine gx tv1 2 ?_;refine cndT rfl h15 ?_;refine gy tv1 8 ?_;refine next (k+1) rfl rfl ⟨rfl,trivial⟩ trivial ?_ ?_
      · omega
      exact⟨by omega,by rw[<- hk2,J8_ (k:=k) (by omega),List.all_cons];generalize ((s.getD k 0).toNat:Int)=z at *;simp[letter, *]⟩
    have p17:=df h15;refine gx tv1 6 ?_;refine cn rfl (fun p19=>?_) fun p20=>?_
    · refine gy tv1 8 ?_;refine next (k+1) rfl rfl ⟨rfl,trivial⟩ trivial ?_ ?_
      · omega
      exact⟨by omega,by rw[<- hk2,J8_ (k:=k) (by omega),List.all_cons];generalize ((s.getD k 0).toNat:Int)=z at *;simp[letter, *]⟩
    refine gx tv1 12 ?_;refine rt1 rfl rfl (ple ?_);refine congrArg PV.bool ?_;first|(rw[<- hk2,J8_ (k:=k) (by omega),List.all_cons];generalize ((s.getD k 0).toNat:Int)=z at *;simp[letter, *];done)|(rw[<- hk2,List.drop_of_length_le (by omega)];rfl)
  refine gx tv1 11 ?_;refine rt1 rfl rfl (ple ?_);refine congrArg PV.bool ?_;first|(rw[<- hk2,J8_ (k:=k) (by omega),List.all_cons];generalize ((s.getD k 0).toNat:Int)=z at *;simp[letter, *];done)|(rw[<- hk2,List.drop_of_length_le (by omega)];rfl)
theorem Dd_ (s:Bs):Fn Tryz.prog gb 109 [.str s] (.int .i64 (Ee_ s)):=by
  refine fC Tryz.func109 tv1 Tryz.ntmps109 fun w N H hG=>?_;refine gx tv1 14 ?_;refine cn rfl (fun p2=>?_) fun p3=>?_
  · refine gx tv1 8 ?_;refine rt1 rfl rfl (ple ?_)
    simp[Ee_, *]<;>omega
  refine gx tv1 8 ?_;refine cn rfl (fun p5=>?_) fun p6=>?_
  · refine gx tv1 8 ?_;refine rt1 rfl rfl (ple ?_)
    simp[Ee_, *]<;>omega
  refine gx tv1 3 ?_;refine call (Tr_ _) rfl rfl fun w7=>?_;refine gx tv1 4 ?_;refine cnd rfl (fun h8=>?_) (fun h8=>?_)
  · have h9:=Ds_ h8;refine gx tv1 8 ?_;refine rt1 rfl rfl (ple ?_)
    simp[Ee_, *]<;>omega
  have h10:=D2_ h8;refine gx tv1 9 ?_;refine rt1 rfl rfl (ple ?_)
  simp[Ee_, *]<;>omega
theorem cb73:U_ Tryz.prog 73:=P_ Tryz.func73 (by kernel_rfl) (by kernel_rfl)
abbrev ty3:TI:=⟨.int .i64,1,8,[.int .i64 0]⟩
abbrev ty22:TI:=⟨.int .u64,1,8,[.int .u64 0]⟩
abbrev ty78:TI:=⟨.int .i64,1,8,[.int .i64 0]⟩
abbrev ty169:TI:=⟨.agg [(0,1),(1,1)],2,24,[.str [], .int .i64 0]⟩
def tbv2:Tb:=[(3,ty3),(9,ty9),(22,ty22),(78,ty78),(169,ty169)]
theorem tv2:tbB Tryz.prog tbv2=true:=by kernel_rfl
theorem out_Num (o:Out) (n bytes:Int) (hlen:o.s.length<=4611686018427387904):Fn Tryz.prog gb 73 [.agg (Out.pc o), .int .u64 n, .int .i64 bytes] (.agg (Out.pc (C_ o n bytes))):=
  fn_of_pr (vs:=[.agg [str o.s, .int .i64 o.err].toArray, .int .u64 n, .int .i64 bytes]) (v:= .agg [str (C_ o n bytes).s, .int .i64 (C_ o n bytes).err].toArray) cb73 rfl rfl
    (fun w H=>Sims.cons (Sim.toAgg (Sims.cons (Sim.str w.1.1) (Sims.cons (Sim.int w.1.2.1.1 w.1.2.1.2) Sims.nil))) (Sims.cons (Sim.int w.2.1.1 w.2.1.2) (Sims.cons (Sim.int w.2.2.1.1 w.2.2.1.2) Sims.nil)))
    (fun w H=>Sim.toAgg (Sims.cons (Sim.str (by have :=Ai_ o n bytes;omega)) (Sims.cons (Sim.int w.1.2.1.1 w.1.2.1.2) Sims.nil)))
    (fun w H hG=>SW.out_Num H o n w.2.1 bytes w.2.2.1 hlen)
theorem Qa_ (o:Out) (s:Bs) (hlen:o.s.length+s.length<=4611686018427387904:=by ((try have :=hrl (by assumption));first|omega|(simp[C_,Cm_,Q_,numK]<;>omega))):Fn Tryz.prog gb 77 [.agg (Out.pc o), .str s] (.agg (Out.pc (Cm_ o s))):=by
  refine fC Tryz.func77 tv2 Tryz.ntmps77 fun w N H hG=>?_;refine gmp tv2 23 [0,1] (fun _=>rfl) (fun _=>rfl) (fun _=>⟨(by first|omega|(simp<;>omega)),trivial⟩) fun B2=>?_;refine rt1 rfl rfl (ple ?_)
  rfl
theorem Dp_ (o:Out):Fn Tryz.prog gb 80 [.agg (Out.pc o)] (.str o.s):=by
  refine fC Tryz.func80 tv2 Tryz.ntmps80 fun w N H hG=>?_;refine gm tv2 14 [0] fun B2=>?_;refine rt1 rfl rfl (ple ?_)
  rfl
theorem D9_ (o:Out) (s:Bs) (hlen:o.s.length+s.length<=4611686018427386000:=by ((try have :=hrl (by assumption));first|omega|(simp[C_,Cm_,Q_,numK]<;>omega))):Fn Tryz.prog gb 74 [.agg (Out.pc o), .str s] (.agg (Out.pc (F_ o s))):=by
  refine fC Tryz.func74 tv2 Tryz.ntmps74 fun w N H hG=>?_;refine gm tv2 14 [0,1] fun B2=>?_;refine cn rfl (fun p5=>?_) fun p11=>?_
  · refine gx tv2 8 ?_;refine cn rfl (fun p7=>?_) fun p9=>?_
    · refine gm tv2 13 [] fun _=>?_;refine rt1 rfl rfl (ple ?_)
      simp[F_,Out.pc, *]
    refine gm tv2 10 [] fun _=>?_;refine rt1 rfl rfl (ple ?_)
    simp[F_,Out.pc, *]
  refine gx tv2 7 ?_;refine q1 (qconv tv2 rfl rfl rfl rfl (Tg_ (by omega))) rfl fun w12=>?_;refine call (out_Num _ _ _ (by ((try have :=hrl (by assumption));first|omega|(simp[C_,Cm_,Q_,numK]<;>omega)))) rfl rfl fun w13=>?_;have :=Ai_ o (s.length:Int) 2;refine gx tv2 1 ?_;refine call (Qa_ _ _) rfl rfl fun w14=>?_;have :=Ia_ (C_ o (s.length:Int) 2) s;refine gm tv2 4 [] fun _=>?_;refine rt1 rfl rfl (ple ?_)
  simp[F_,Out.pc, *]
theorem cb166:U_ Tryz.prog 166:=P_ Tryz.func166 (by kernel_rfl) (by kernel_rfl)
theorem cb81:U_ Tryz.prog 81:=P_ Tryz.func81 (by kernel_rfl) (by kernel_rfl)
theorem cb84:U_ Tryz.prog 84:=P_ Tryz.func84 (by kernel_rfl) (by kernel_rfl)
abbrev ty272:TI:=⟨.agg [(0,1),(1,1)],2,24,[.str [], .int .i64 0]⟩
def tbv3:Tb:=[(9,ty9),(78,ty78),(272,ty272)]
theorem tv3:tbB Tryz.prog tbv3=true:=by kernel_rfl
theorem octet_New (s:Bs):Fb Tryz.prog gb 81 [.str s] 272 (In.pc (⟨s,0⟩)):=by
  refine fb_cw tv3 Tryz.func81 rfl Tryz.ntmps81 rfl cb81 rfl rfl fun w N H hG=>?_;refine gm tv3 14 [0] fun B2=>?_;refine rb rfl rfl rfl rfl rfl ?_;exact ples_rfl
theorem in_Fail (i:In) (code:Int):Fm Tryz.prog gb 166 [.int .i64 code] 272 (In.pc i) (.tup []) (In.pc (Ig_ i code)):=by
  refine fm_cw tv3 Tryz.func166 rfl Tryz.ntmps166 rfl cb166 rfl rfl rfl rfl fun w wp b N H hG=>?_;refine gx tv3 3 ?_;refine q1 (qpne Tryz.underlying177 rfl rfl) rfl fun w1=>?_;refine gy tv3 13 ?_;refine cnd rfl (fun h2=>?_) (fun h2=>?_)
  · have h3:=bl h2;have h4:=bl h3;have h5:=br h3;have p6:=dt h5;have h7:=br h2;have h8:=Ds_ h7;have p9:=df h8;refine gm tv3 11 [] fun _=>?_;refine rm0n rfl rfl ?_ rfl rfl rfl ?_
    · exact ple (by first|rfl|(simp[Ig_, *];done))
    refine ples ?_
    first|rfl|(simp[Ig_,In.pc, *];done)|(simp only[Ig_];split<;>simp_all [In.pc])
  refine gx tv3 1 ?_;refine rm0n rfl rfl ?_ rfl rfl rfl ?_
  · exact ple (by first|rfl|(simp[Ig_, *];done))
  refine ples ?_
  first|rfl|(simp[Ig_,In.pc, *];done)|(simp only[Ig_];split<;>simp_all [In.pc])
theorem in_Raw (i:In) (n:Int):Fm Tryz.prog gb 84 [.int .i64 n] 272 (In.pc i) (.str ((I8_ i n).1)) (In.pc ((I8_ i n).2)):=by
  refine fm_cw tv3 Tryz.func84 rfl Tryz.ntmps84 rfl cb84 rfl rfl rfl rfl fun w wp b N H hG=>?_;refine gx tv3 11 ?_;refine q1 (qpeq Tryz.underlying177 rfl rfl) rfl fun w1=>?_;refine gx tv3 14 ?_;refine cnd rfl (fun h2=>?_) (fun h2=>?_)
  · have h3:=Ds_ h2;have p4:=df h3;refine gx tv3 2 ?_;refine cndT rfl h2 ?_;refine gx tv3 8 ?_;refine rm1 rfl rfl ?_ rfl rfl rfl ?_
    · exact ple (by first|rfl|(simp[I8_,Ig_, *];done))
    refine ples ?_
    first|rfl|(simp[I8_,Ig_,In.pc, *];done)|(simp only[I8_,Ig_];split<;>simp_all [In.pc])
  have h5:=D2_ h2;have p6:=dt h5;refine gx tv3 6 ?_;refine cn rfl (fun p8=>?_) fun p9=>?_
  · refine gx tv3 8 ?_;refine rm1 rfl rfl ?_ rfl rfl rfl ?_
    · exact ple (by first|rfl|(simp[I8_,Ig_, *];done))
    refine ples ?_
    first|rfl|(simp[I8_,Ig_,In.pc, *];done)|(simp only[I8_,Ig_];split<;>simp_all [In.pc])
  refine gx tv3 12 ?_;refine cn rfl (fun p11=>?_) fun p13=>?_
  · refine gx tv3 3 ?_;refine ef (ecallm (in_Fail _ _) rfl rfl rfl rfl rfl fun w12 w12p=>?_);refine gx tv3 10 ?_;refine rm1 rfl rfl ?_ rfl rfl rfl ?_
    · exact ple (by first|rfl|(simp[I8_,Ig_, *];done))
    refine ples ?_
    first|rfl|(simp[I8_,Ig_,In.pc, *];done)|(simp only[I8_,Ig_];split<;>simp_all [In.pc])
  refine gx tv3 10 ?_;refine q1 (sshi tv3 (n).toNat rfl rfl rfl rfl (by omega) (by omega)) rfl fun w14=>?_;refine gx tv3 11 ?_;refine q1 (sslo tv3 (n).toNat rfl rfl rfl rfl (by omega) (by omega)) rfl fun w15=>?_;refine gm tv3 12 [] fun _=>?_;refine rm1 rfl rfl ?_ rfl rfl rfl ?_
  · exact ple (by first|rfl|(simp[I8_,Ig_, *];done))
  refine ples ?_
  first|rfl|(simp[I8_,Ig_,In.pc, *];done)|(simp only[I8_,Ig_];split<;>simp_all [In.pc])
theorem cb310:U_ Tryz.prog 310:=P_ Tryz.func310 (by kernel_rfl) (by kernel_rfl)
abbrev Ns_:TI:=⟨.slc 9,1,24,[.sl strc []]⟩
def tbv4:Tb:=[(9,ty9),(106,Ns_)]
theorem tv4:tbB Tryz.prog tbv4=true:=by kernel_rfl
theorem strings_Split (s p:Bs) (hp:p=[46]) (hs:s.length<4294967281):Fn Tryz.prog gb 310 [.str s, .str p] (.sl strc (dots s)):=
  ⟨cb310,rfl,fun N H L w us hg hsim hm=>by
    obtain⟨v1,_,rfl,h1,h2⟩:=hsim.inv_cons;obtain⟨v2,_,rfl,h3,h4⟩:=h2.inv_cons
    cases h4.inv_nil
    rw[h1.inv_str.1,h3.inv_str.1]
    refine (SW.strings_Split H s p hp (gbML hg) hs N L w hm).mono fun _ _ ⟨v,H',h5,⟨a,c,h6,h7⟩,h8,h9⟩=>⟨v,H',h5,?_,h8,h9⟩
    rw[h6]
    exact Sim.of_slh (k:=1) ⟨h7.1,fun m hm=>by
      obtain⟨cs,hE,hat⟩:=h7.2 m hm;obtain⟨hE1,hE2⟩:=hE;subst hE1;exact⟨_,⟨rfl,Sims.nil.cons (Sim.str hE2),fun u hu=>by simp at hu;subst hu;rfl⟩,hat⟩⟩ (by have :=dots_le s;omega)⟩
theorem Ok_ (s:Bs) (hs:s.length<4294967281:=by omega):Fn Tryz.prog gb 295 [.str s] (.sl strc (Bj_ s)):=by
  refine fC Tryz.func295 tv4 Tryz.ntmps295 fun w N H hG=>?_;refine gx tv4 12 ?_;refine cn rfl (fun p2=>?_) fun p3=>?_
  · refine gx tv4 7 ?_;refine rt1 rfl rfl ?_;refine K3_ ?_
    simp[Bj_, *]
  refine gx tv4 5 ?_;refine call (strings_Split _ _ (by rfl) (by omega)) rfl rfl fun w4=>?_;refine gx tv4 4 ?_;refine rt1 rfl rfl (ple ?_)
  simp[Bj_, *]
theorem Y2_ (s:Bs) (besides:List Bs):Fn Tryz.prog gb 252 [.str s, .sl strc besides] (.int .i64 (keyE besides s)):=by
  refine fC Tryz.func252 tv4 Tryz.ntmps252 fun w N H hG=>?_;have s_l:s.length<=9223372036854775807:=w.1;have besides_l:besides.length<=140737488355328:=w.2.1.1;refine gx tv4 14 ?_;refine cn rfl (fun p2=>?_) fun p3=>?_
  · refine gx tv4 8 ?_;refine rt1 rfl rfl (ple ?_)
    simp[keyE, *]
  refine gx tv4 9 ?_;refine call (Ok_ _) rfl rfl fun w4=>?_;refine gx tv4 5 ?_;refine loop (ι:=Nat) [0,1,9,10,11,12,13,14] [] (fun k=>[(15, .int .i64 (k:Int))]) (fun k=>[]) (fun k=>k<=(Bj_ s).length/\(Bj_ s).any (Nz_ besides)=((Bj_ s).drop k).any (Nz_ besides)) (fun k=>(Bj_ s).length-k) 0 ⟨rfl,trivial⟩ trivial ?_ ?_
  · exact⟨Nat.zero_le _,by simp⟩
  rintro k hp5;obtain⟨hk1,hk2⟩:=hp5;have hwl:=Rh_ s;refine gx tv4 6 ?_;refine cn rfl (fun p7=>?_) fun p26=>?_
  · obtain⟨c8,hc9⟩:=getE (xs:=Bj_ s) (m:=k) (by omega);have c8_l:c8.length<=9223372036854775807:=(w4.2 c8 (List.mem_of_getElem? hc9)).1;refine gx tv4 6 ?_;refine q1 (qidx tv4 k rfl rfl rfl hc9 rfl rfl rfl rfl) rfl fun w10=>?_;refine gx tv4 13 ?_;refine loop (ι:=Nat) [0,1,6,9,10,11,12,13,14,15,16,17,18,19,20] [] (fun j=>[(21, .int .i64 (j:Int))]) (fun j=>[]) (fun j=>j<=besides.length/\besides.contains c8=(besides.drop j).contains c8) (fun j=>besides.length-j) 0 ⟨rfl,trivial⟩ trivial ?_ ?_
    · exact⟨Nat.zero_le _,by simp⟩
    rintro j hp11;obtain⟨hj1,hj2⟩:=hp11;refine gx tv4 6 ?_;refine cn rfl (fun p13=>?_) fun p20=>?_
    · obtain⟨c14,hc15⟩:=getE (xs:=besides) (m:=j) (by omega);have c14_l:c14.length<=9223372036854775807:=(w.2.1.2 c14 (List.mem_of_getElem? hc15)).1;refine gx tv4 6 ?_;refine q1 (qidx tv4 j rfl rfl rfl hc15 rfl rfl rfl rfl) rfl fun w16=>?_;refine gx tv4 11 ?_;refine cn rfl (fun p18=>?_) fun p19=>?_
      · refine gy tv4 12 ?_;refine next (k+1) rfl rfl ⟨rfl,trivial⟩ trivial ?_ ?_
        · omega
        refine⟨by omega,?_⟩
        rw[hk2,C4_ hc9,List.any_cons]
        have hb:Nz_ besides c8=false:=by
          unfold Nz_
          rw[hj2,C4_ hc15]
          first|(simp[*];done)|simp_all
        simp[hb]
      refine gy tv4 7 ?_;refine next (j+1) rfl rfl ⟨rfl,trivial⟩ trivial ?_ ?_
      · omega
      refine⟨by omega,?_⟩
      rw[hj2,C4_ hc15,List.contains_cons]
      simp[*]
    refine gx tv4 11 ?_;refine callg rfl (fun hc=>(Tr_ _)) rfl ⟨(fun hc=>hc),trivial⟩ rfl rfl fun _=>?_;refine gy tv4 4 ?_;refine cnd rfl (fun h21=>?_) (fun h21=>?_)
    · refine gx tv4 12 ?_;refine rt1 rfl rfl (ple ?_);have hb:Nz_ besides c8=true:=by
        unfold Nz_
        rw[hj2,List.drop_of_length_le (by omega)]
        first|(simp[*];done)|simp_all
      unfold keyE
      rw[if_neg (by omega),hk2,C4_ hc9,List.any_cons,hb]
      rfl
    have h22:=orl h21;have p23:=df h22;have h24:=orr h21;have h25:=D2_ h24;refine gy tv4 7 ?_;refine next (k+1) rfl rfl ⟨rfl,trivial⟩ trivial ?_ ?_
    · omega
    refine⟨by omega,?_⟩
    rw[hk2,C4_ hc9,List.any_cons]
    have hb:Nz_ besides c8=false:=by
      unfold Nz_
      rw[hj2,List.drop_of_length_le (by omega)]
      first|(simp[*];done)|simp_all
    simp[hb]
  refine gx tv4 12 ?_;refine rt1 rfl rfl (ple ?_)
  unfold keyE
  rw[if_neg (by omega),hk2,List.drop_of_length_le (by omega)]
  rfl
theorem Y1_ (s:Bs):Fn Tryz.prog gb 192 [.str s] (.int .i64 (keyE [] s)):=by
  refine fC Tryz.func192 tv4 Tryz.ntmps192 fun w N H hG=>?_;refine gx tv4 8 ?_;refine call (Fn.le (Y2_ _ []) (A_ (ple rfl) (A_ S_ Y_)) (ple rfl) rfl) rfl rfl fun w1=>?_;refine gx tv4 4 ?_;refine rt1 rfl rfl (ple ?_)
  rfl
theorem ag2:Ag Tryz.prog 2 false:=fun w=>by kernel_rfl
theorem ag5:Ag Tryz.prog 5 false:=fun w=>by kernel_rfl
theorem ag9:Ag Tryz.prog 9 false:=fun w=>by kernel_rfl
theorem eqg268:Tryz.prog.eqGuardType Tryz.prog.depth 268=false:=by kernel_rfl
theorem mixd:Tryz.prog.follows .mixedOrders=true:=by kernel_rfl
theorem veq268 (p q:Pair):∀ (H:Hp) (vs us:List Value),Sims H (Pair.pc p) vs->Sims H (Pair.pc q) us->EqV Tryz.prog 10000 268 (.agg vs.toArray) (.agg us.toArray) (decide (p=q)):=by
  intro H vs us hv hu;obtain⟨_,_,rfl,v0,v_0⟩:=hv.inv_cons;obtain⟨_,_,rfl,v1,v_1⟩:=v_0.inv_cons;obtain⟨_,_,rfl,v2,v_2⟩:=v_1.inv_cons;obtain⟨_,_,rfl,v3,v_3⟩:=v_2.inv_cons
  cases v_3.inv_nil
  cases v0.inv_str.1;cases v1.inv_int.1;cases v2.inv_int.1;cases v3.inv_str.1
  obtain⟨_,_,rfl,u0,u_0⟩:=hu.inv_cons;obtain⟨_,_,rfl,u1,u_1⟩:=u_0.inv_cons;obtain⟨_,_,rfl,u2,u_2⟩:=u_1.inv_cons;obtain⟨_,_,rfl,u3,u_3⟩:=u_2.inv_cons
  cases u_3.inv_nil
  cases u0.inv_str.1;cases u1.inv_int.1;cases u2.inv_int.1;cases u3.inv_str.1
  exact EqV.to' (Vb_ Tryz.underlying268 (by kernel_rfl) (Pr_ (by decide) ag9 rfl rfl (Ps_ Tryz.underlying9) (Pr_ (by decide) ag5 rfl rfl (Nx_ Tryz.underlying5) (Pr_ (by decide) ag2 rfl rfl (Nx_ Tryz.underlying2) (Pr_ (by decide) ag9 rfl rfl (Ps_ Tryz.underlying9) U9_))))) (by obtain⟨a0,a1,a2,a3⟩:=p;obtain⟨b0,b1,b2,b3⟩:=q;rw[Bool.eq_iff_iff];simp)
abbrev ty2:TI:=⟨.int .i64,1,8,[.int .i64 0]⟩
abbrev ty5:TI:=⟨.int .u8,1,1,[.int .u8 0]⟩
abbrev ty67:TI:=⟨.slc 268,1,24,[.sl Pair.pc []]⟩
abbrev ty268:TI:=⟨.agg [(0,1),(1,1),(2,1),(3,1)],4,48,[.str [], .int .u8 0, .int .i64 0, .str []]⟩
def tbv5:Tb:=[(2,ty2),(5,ty5),(9,ty9),(67,ty67),(268,ty268)]
theorem tv5:tbB Tryz.prog tbv5=true:=by kernel_rfl
theorem eq_Pair (a:List Pair) (b:List Pair):Fn Tryz.prog gb 279 [.sl Pair.pc a, .sl Pair.pc b] (.bool (decide (a=b))):=by
  refine fC Tryz.func279 tv5 Tryz.ntmps279 fun w N H hG=>?_;have a_l:a.length<=140737488355328:=w.1.1;have b_l:b.length<=140737488355328:=w.2.1.1;refine gx tv5 15 ?_;refine cnd rfl (fun h1=>?_) (fun h1=>?_)
  · have h2:=Ds_ h1;have p3:=df h2;refine gx tv5 7 ?_;refine rt1 rfl rfl (ple ?_);exact congrArg PV.bool (eqL_len (by assumption)).symm
  have h4:=D2_ h1;have p5:=dt h4;refine gx tv5 11 ?_;refine loop (ι:=Nat) [0,1,6,7,8,9,10,11,12] [] (fun k=>[(13, .int .i64 (k:Int))]) (fun k=>[]) (fun k=>k<=a.length /\ decide (a=b) = decide (a.drop k=b.drop k)) (fun k=>a.length-k) 0 ⟨rfl,trivial⟩ trivial ?_ ?_
  · exact⟨Nat.zero_le _,rfl⟩
  rintro k hp6;obtain⟨hk1,hk2⟩:=hp6;refine gx tv5 6 ?_;refine cnd rfl (fun h7=>?_) (fun h7=>?_)
  · have p8:=dt h7;refine gx tv5 11 ?_;refine aN [0,1,2,3,4,5] 9 mixd ?_;refine gX tv5 [0,1] 7 ?_;obtain⟨c9,hc10⟩:=getE (xs:=a) (m:=k) (by omega);have c9_w:=Pair.pwf (w.1.2 c9 (List.mem_of_getElem? hc10));refine vq 2 (qidx tv5 k rfl rfl rfl hc10 rfl rfl rfl rfl) rfl (by kernel_rfl) rfl fun w11=>?_;refine gX tv5 [3,4,5] 3 ?_;obtain⟨c12,hc13⟩:=getE (xs:=b) (m:=k) (by omega);have c12_w:=Pair.pwf (w.2.1.2 c12 (List.mem_of_getElem? hc13));refine vq 6 (qidx tv5 k rfl rfl rfl hc13 rfl rfl rfl rfl) rfl (by kernel_rfl) rfl fun w14=>?_;refine gX tv5 [7] 1 ?_;refine vq 8 (sane rfl rfl eqg268 (veq268 c9 c12)) rfl (by kernel_rfl) rfl fun w15=>?_;refine vD ?_;refine gx tv5 1 ?_;refine cnd rfl (fun h16=>?_) (fun h16=>?_)
    · have h17:=Ds_ h16;have p18:=df h17;refine gx tv5 11 ?_;refine rt1 rfl rfl (ple ?_);exact congrArg PV.bool (eqL_miss hk2 (C4_ hc10) (C4_ hc13) (by assumption)).symm
    have h19:=D2_ h16;have p20:=dt h19;refine gy tv5 7 ?_;refine next (k+1) rfl rfl ⟨rfl,trivial⟩ trivial ?_ ?_
    · omega
    exact⟨by omega,eqL_step hk2 (C4_ hc10) (C4_ hc13) (by assumption)⟩
  have p21:=df h7;refine gx tv5 11 ?_;refine rt1 rfl rfl (ple ?_);exact congrArg PV.bool (eqL_end hk2 (by omega) (by omega)).symm
theorem W5_ (a:List Pair) (b:List Pair):Fn Tryz.prog gb 250 [.sl Pair.pc a, .sl Pair.pc b] (.bool (decide (a=b))):=by
  refine fC Tryz.func250 tv5 Tryz.ntmps250 fun w N H hG=>?_;refine gx tv5 9 ?_;refine call (eq_Pair _ _) rfl rfl fun w1=>?_;refine gx tv5 4 ?_;refine rt1 rfl rfl (ple ?_)
  rfl
theorem idxF_Pair (s:List Pair) (f:FuncId) (f_fst f_cap:List PV) (f_p:Pair->Bool) (f_h:∀ x,Fn Tryz.prog gb f (argsP.apL f_fst ((.agg (Pair.pc x))::f_cap)) (.bool (f_p x))):Fn Tryz.prog gb 293 [.sl Pair.pc s, .fn f f_fst f_cap] (.int .i64 (idxP f_p s)):=by
  refine fC Tryz.func293 tv5 Tryz.ntmps293 fun w N H hG=>?_;have s_l:s.length<=140737488355328:=w.1.1;refine gx tv5 14 ?_;refine loop (ι:=Nat) [0,1,6,7] [] (fun k=>[(8, .int .i64 (k:Int))]) (fun k=>[]) (fun k=>k<=s.length/\idxP f_p s=idxF f_p k (s.drop k)) (fun k=>s.length-k) 0 ⟨rfl,trivial⟩ trivial ?_ ?_
  · exact⟨Nat.zero_le _,rfl⟩
  rintro k hp1;obtain⟨hk1,hk2⟩:=hp1;refine gx tv5 6 ?_;refine cnd rfl (fun h2=>?_) (fun h2=>?_)
  · have p3:=dt h2;obtain⟨c4,hc5⟩:=getE (xs:=s) (m:=k) (by omega);have c4_w:=Pair.pwf (w.1.2 c4 (List.mem_of_getElem? hc5));refine gx tv5 15 ?_;refine q1 (qidx tv5 k rfl rfl rfl hc5 rfl rfl rfl rfl) rfl fun w6=>?_;refine gx tv5 1 ?_;refine call (f_h c4) rfl rfl fun w7=>?_;refine gx tv5 2 ?_;refine cnd rfl (fun h8=>?_) (fun h8=>?_)
    · refine gx tv5 12 ?_;refine rt1 rfl rfl (ple ?_);exact congrArg (PV.int .i64) (L1_ hk2 (C4_ hc5) (by assumption)).symm
    refine gy tv5 7 ?_;refine next (k+1) rfl rfl ⟨rfl,trivial⟩ trivial ?_ ?_
    · omega
    exact⟨by omega,Jw_ hk2 (C4_ hc5) (by assumption)⟩
  have p9:=df h2;refine gx tv5 11 ?_;refine rt1 rfl rfl (ple ?_);exact congrArg (PV.int .i64) (L0_ hk2 (by omega)).symm
theorem head_Find1 (p:Pair) (key:Bs):Fn Tryz.prog gb 294 [.agg (Pair.pc p), .el [.str key] 0] (.bool (decide (p.key=key))):=by
  refine fC Tryz.func294 tv5 Tryz.ntmps294 fun w N H hG=>?_;refine gm tv5 16 [0] fun B2=>?_;refine rt1 rfl rfl (ple ?_)
  rfl
theorem W4_ (h:List Pair) (key:Bs):Fn Tryz.prog gb 251 [.sl Pair.pc h, .str key] (.tup [.agg (Pair.pc ((J9_ h key).getD Pair.zero)), .bool ((J9_ h key).isSome)]):=by
  refine fC Tryz.func251 tv5 Tryz.ntmps251 fun w N H hG=>?_;refine gm tv5 10 [0,1] fun B2=>?_;refine freeze (i:=0) (t:=3) rfl rfl rfl rfl ?_;refine gx tv5 1 ?_;refine call (idxF_Pair _ _ _ _ (fun z_4:Pair=>decide (z_4.key=key)) (fun z_4=>head_Find1 z_4 key)) rfl rfl fun w5=>?_;have hix5:=H8_ (fun z_4:Pair=>decide (z_4.key=key)) h;refine gx tv5 10 ?_;refine cn rfl (fun p7=>?_) fun p9=>?_
  · refine gm tv5 9 [] fun _=>?_;refine rt2 rfl rfl ?_;refine ple ?_;have e:=Q5_ (by assumption);have e2:J9_ h key=none:=by unfold J9_;rw[<- e];congr 1;funext x;exact St_ _ _
    rw[e2];rfl
  obtain⟨c10,hc11⟩:=getE (xs:=h) (m:=(idxP (fun z_4:Pair=>decide (z_4.key=key)) h).toNat) (by omega);have c10_w:=Pair.pwf (w.1.2 c10 (List.mem_of_getElem? hc11));refine gx tv5 6 ?_;refine q1 (qidx tv5 (idxP (fun z_4:Pair=>decide (z_4.key=key)) h).toNat rfl rfl (by omega) hc11 rfl rfl rfl rfl) rfl fun w12=>?_;refine gm tv5 6 [] fun _=>?_;refine rt2 rfl rfl ?_;refine ple ?_;have e:=(Vo_ (by assumption) hc11).2;have e2:J9_ h key=some c10:=by unfold J9_;rw[<- e];congr 1;funext x;exact St_ _ _
  rw[e2];rfl
theorem head_pair (p:Pair) (ahead:List Pair):Fn Tryz.prog gb 191 [.agg (Pair.pc p), .sl Pair.pc ahead] (.int .i64 (E9_ p ahead)):=by
  refine fC Tryz.func191 tv5 Tryz.ntmps191 fun w N H hG=>?_;refine gm tv5 11 [0] fun B2=>?_;refine call (Dd_ _) rfl rfl fun w3=>?_;refine gx tv5 9 ?_;refine cnd rfl (fun h4=>?_) (fun h4=>?_)
  · have h5:=Ds_ h4;have p6:=df h5;refine gx tv5 8 ?_;refine rt1 rfl rfl (ple ?_);refine congrArg (PV.int .i64) ?_
    simp only[bl1] at *
    unfold E9_
    (repeat' split)<;>first|rfl|(exfalso;omega)|(exfalso;simp_all;done)|(exfalso;simp_all;omega)|grind
  have h7:=D2_ h4;have p8:=dt h7;refine gx tv5 7 ?_;refine call (W4_ _ _) rfl rfl fun w9=>?_;refine gm tv5 18 [1] fun B11=>?_;refine cnd rfl (fun h12=>?_) (fun h12=>?_)
  · have p13:=dt h12;refine gx tv5 8 ?_;refine rt1 rfl rfl (ple ?_);refine congrArg (PV.int .i64) ?_
    simp only[bl1] at *
    unfold E9_
    (repeat' split)<;>first|rfl|(exfalso;omega)|(exfalso;simp_all;done)|(exfalso;simp_all;omega)|grind
  have p14:=df h12;refine gy tv5 14 ?_;refine cnd rfl (fun h15=>?_) (fun h15=>?_)
  · have h16:=bl h15;have p17:=dt h16;have h18:=br h15;have p19:=dt h18;refine gx tv5 8 ?_;refine rt1 rfl rfl (ple ?_);refine congrArg (PV.int .i64) ?_
    simp only[bl1] at *
    unfold E9_
    (repeat' split)<;>first|rfl|(exfalso;omega)|(exfalso;simp_all;done)|(exfalso;simp_all;omega)|grind
  refine gy tv5 18 ?_;refine cnd rfl (fun h20=>?_) (fun h20=>?_)
  · have h21:=bl h20;have h22:=bl h21;have p23:=dt h22;have h24:=br h21;have h25:=Ds_ h24;have p26:=df h25;have h27:=br h20;have h28:=Ds_ h27;have p29:=df h28;refine gx tv5 8 ?_;refine rt1 rfl rfl (ple ?_);refine congrArg (PV.int .i64) ?_
    simp only[bl1] at *
    unfold E9_
    (repeat' split)<;>first|rfl|(exfalso;omega)|(exfalso;simp_all;done)|(exfalso;simp_all;omega)|grind
  refine gy tv5 14 ?_;refine cnd rfl (fun h30=>?_) (fun h30=>?_)
  · have h31:=bl h30;have p32:=dt h31;have h33:=br h30;have h34:=Ds_ h33;have p35:=df h34;refine gx tv5 2 ?_;refine cndT rfl h30 ?_;refine gx tv5 8 ?_;refine rt1 rfl rfl (ple ?_);refine congrArg (PV.int .i64) ?_
    simp only[bl1] at *
    unfold E9_
    (repeat' split)<;>first|rfl|(exfalso;omega)|(exfalso;simp_all;done)|(exfalso;simp_all;omega)|grind
  refine gy tv5 12 ?_;refine cnd rfl (fun h36=>?_) (fun h36=>?_)
  · have h37:=bl h36;have h38:=Ds_ h37;have p39:=df h38;have h40:=br h36;have h41:=Ds_ h40;have p42:=df h41;refine gx tv5 8 ?_;refine rt1 rfl rfl (ple ?_);refine congrArg (PV.int .i64) ?_
    simp only[bl1] at *
    unfold E9_
    (repeat' split)<;>first|rfl|(exfalso;omega)|(exfalso;simp_all;done)|(exfalso;simp_all;omega)|grind
  refine gx tv5 6 ?_;refine cnd rfl (fun h43=>?_) (fun h43=>?_)
  · refine gx tv5 8 ?_;refine rt1 rfl rfl (ple ?_);refine congrArg (PV.int .i64) ?_
    simp only[bl1] at *
    unfold E9_
    (repeat' split)<;>first|rfl|(exfalso;omega)|(exfalso;simp_all;done)|(exfalso;simp_all;omega)|grind
  refine gx tv5 9 ?_;refine rt1 rfl rfl (ple ?_);refine congrArg (PV.int .i64) ?_
  simp only[bl1] at *
  unfold E9_
  (repeat' split)<;>first|rfl|(exfalso;omega)|(exfalso;simp_all;done)|(exfalso;simp_all;omega)|grind
theorem J4_ (h:List Pair):Fn Tryz.prog gb 112 [.sl Pair.pc h] (.int .i64 (Fo_ h)):=by
  refine fC Tryz.func112 tv5 Tryz.ntmps112 fun w N H hG=>?_;refine gx tv5 13 ?_;refine cn rfl (fun p2=>?_) fun p3=>?_
  · refine gx tv5 7 ?_;refine rt1 rfl rfl (ple ?_)
    simp[Fo_, *]
  refine gx tv5 11 ?_;refine loop (ι:=Nat) [0,6,7,8,9,10] [] (fun k=>[(11, .int .i64 (k:Int))]) (fun k=>[]) (fun k=>k<=h.length/\Ir_ [] h=Ir_ (h.take k) (h.drop k)) (fun k=>h.length-k) 0 ⟨rfl,trivial⟩ trivial ?_ ?_
  · exact⟨Nat.zero_le _,rfl⟩
  rintro k hp4;obtain⟨hk1,hk2⟩:=hp4;refine gx tv5 6 ?_;refine cn rfl (fun p6=>?_) fun p19=>?_
  · obtain⟨c7,hc8⟩:=getE (xs:=h) (m:=k) (by omega);have c7_w:=Pair.pwf (w.1.2 c7 (List.mem_of_getElem? hc8));refine gx tv5 7 ?_;refine q1 (qidx tv5 k rfl rfl rfl hc8 rfl rfl rfl rfl) rfl fun w9=>?_;refine gm tv5 7 [0] fun B11=>?_;refine aN [1,2,3,4,5,6] 6 mixd ?_;refine gX tv5 [0,1,2] 3 ?_;refine vq 3 (lshi tv5 k rfl rfl rfl rfl rfl (fun _=>rfl) rfl (by omega)) rfl (by kernel_rfl) rfl fun w12=>?_;refine vC 4 rfl (head_pair _ _) rfl fun w13=>?_;have :=S4_ c7 (h.take k);refine gX tv5 [5] 0 ?_;refine vD ?_;refine gx tv5 7 ?_;refine cnd rfl (fun h14=>?_) (fun h14=>?_)
    · have h15:=Ds_ h14;have p16:=df h15;refine gx tv5 12 ?_;refine rt1 rfl rfl (ple ?_)
      unfold Fo_
      rw[if_neg (by omega),hk2,C4_ hc8]
      simp only[Ir_]
      rw[if_pos (by omega)]
    have h17:=D2_ h14;have p18:=dt h17;refine gy tv5 7 ?_;refine next (k+1) rfl rfl ⟨rfl,trivial⟩ trivial ?_ ?_
    · omega
    refine⟨by omega,?_⟩
    rw[hk2,C4_ hc8,takeE hc8]
    simp only[Ir_]
    rw[if_neg (by omega)]
  refine gx tv5 11 ?_;refine rt1 rfl rfl (ple ?_)
  unfold Fo_
  rw[if_neg (by omega),hk2,List.drop_of_length_le (by omega)]
  rfl
abbrev ty4:TI:=⟨.bool,1,1,[.bool false]⟩
abbrev ty69:TI:=⟨.agg [(0,1),(1,1),(2,1),(3,1),(4,1),(5,1)],6,88,[.str [], .str [], .bool false, .str [], .sl Pair.pc [], .bool false]⟩
def tbv9:Tb:=[(4,ty4),(9,ty9),(67,ty67),(69,ty69)]
theorem tv9:tbB Tryz.prog tbv9=true:=by kernel_rfl
theorem U8_ (a:BindR) (b:BindR):Fn Tryz.prog gb 188 [.agg (BindR.pc a), .agg (BindR.pc b)] (.bool (decide (a=b))):=by
  refine fC Tryz.func188 tv9 Tryz.ntmps188 fun w N H hG=>?_;refine gmy tv9 40 [0,1] fun B2=>?_;refine callg rfl (fun hc=>(W5_ _ _)) rfl ⟨(fun hc=>hc),(fun hc=>hc),trivial⟩ rfl rfl fun _=>?_;refine gy tv9 12 ?_;refine rt1 rfl rfl (ple ?_);exact congrArg PV.bool (by rw[Bool.eq_iff_iff];first|(simp[BindR.eq_iff,and_assoc];done)|(simp[BindR.eq_iff];grind))
theorem Q4_ (yes:Bool):Fn Tryz.prog gb 317 [.bool yes] (.int .u64 (bitN yes)):=by
  refine fC Tryz.func317 tv9 Tryz.ntmps317 fun w N H hG=>?_;refine gx tv9 11 ?_;refine cnd rfl (fun h1=>?_) (fun h1=>?_)
  · refine gx tv9 7 ?_;refine rt1 rfl rfl (ple ?_)
    simp only[bitN, *];rfl
  refine gx tv9 8 ?_;refine rt1 rfl rfl (ple ?_)
  simp only[bitN, *];rfl
theorem cb85:U_ Tryz.prog 85:=P_ Tryz.func85 (by kernel_rfl) (by kernel_rfl)
abbrev ty193:TI:=⟨.slc 5,1,24,[.sl u8c []]⟩
def tbv6:Tb:=[(3,ty3),(5,ty5),(9,ty9),(22,ty22),(78,ty78),(193,ty193),(272,ty272)]
theorem tv6:tbB Tryz.prog tbv6=true:=by kernel_rfl
theorem in_Num (i:In) (bytes:Int):Fm Tryz.prog gb 85 [.int .i64 bytes] 272 (In.pc i) (.int .u64 (((Vp_ i bytes)).1)) (In.pc (((Vp_ i bytes)).2)):=by
  refine fm_cw tv6 Tryz.func85 rfl Tryz.ntmps85 rfl cb85 rfl rfl rfl rfl fun w wp b N H hG=>?_;have hb0:=Rz_ i (min bytes 8);refine gx tv6 16 ?_;refine ef (ecallm (in_Raw _ (min bytes 8)) rfl rfl rfl rfl rfl fun w1 w1p=>?_);refine ef (ss2b tv6 rfl rfl rfl rfl rfl rfl rfl (by omega) rfl ?_);refine gx tv6 5 ?_;refine loop (ι:=Nat) [0,1,4,8,9,10,11,12,13] [0] (fun k=>[(5, .int .u64 (beN ((I8_ i (min bytes 8)).1.take k):Int)),(14, .int .i64 (k:Int))]) (fun k=>[]) (fun k=>k<=(I8_ i (min bytes 8)).1.length) (fun k=>(I8_ i (min bytes 8)).1.length-k) 0 ⟨rfl,rfl,trivial⟩ trivial ?_ ?_
  · exact Nat.zero_le _
  rintro k hp2;have hb:=Rz_ i (min bytes 8);refine gx tv6 6 ?_;refine cn rfl (fun p4=>?_) fun p8=>?_
  · obtain⟨c5,hc6⟩:=getE (xs:=(I8_ i (min bytes 8)).1) (m:=k) (by omega);refine gx tv6 6 ?_;refine q1 (qidx tv6 k rfl rfl rfl hc6 rfl rfl rfl rfl) rfl fun w7=>?_;have :=Kt_ ((BitVec.ofInt (IntKind.bits .u64) (IntKind.wrap .u64 ((beN ((I8_ i (min bytes 8)).1.take k):Int)*2 ^ (min (8:Int).toNat (IntKind.bits .u64)))) |||BitVec.ofInt (IntKind.bits .u64) ((c5).toNat:Int)).toNat)
    refine gy tv6 18 ?_;refine next (k+1) rfl rfl ⟨(congrArg (PV.int .u64) (num_step hc6 (by omega))),rfl,trivial⟩ trivial ?_ ?_
    · omega
    omega
  refine gx tv6 12 ?_;refine rm1 rfl rfl ?_ rfl rfl rfl ?_
  · refine ple ?_
    simp only[Vp_]
    rw[List.take_of_length_le (by omega)]
  exact ples rfl
def tbv7:Tb:=[(9,ty9),(106,Ns_)]
theorem tv7:tbB Tryz.prog tbv7=true:=by kernel_rfl
theorem J3_ (pattern:Bs) (key:Bs) (hp:pattern.length<4294967281:=by first|omega|(simp;done)|decide) (hk:key.length<4294967281:=by first|omega|(simp;done)|decide):Fn Tryz.prog gb 296 [.str pattern, .str key] (.bool (mt (Bj_ pattern) (Bj_ key))):=by
  refine fC Tryz.func296 tv7 Tryz.ntmps296 fun w N H hG=>?_;refine gx tv7 8 ?_;refine call (Ok_ _) rfl rfl fun w1=>?_;refine gx tv7 1 ?_;refine call (Ok_ _) rfl rfl fun w2=>?_;refine gx tv7 18 ?_;refine loop (ι:=Nat×Nat×Int×Nat) [0,1,5,6,11,12,13,14] [] (fun ⟨i,j,b,f⟩=>[(7, .int .i64 (i:Int)),(8, .int .i64 (j:Int)),(9, .int .i64 b),(10, .int .i64 (f:Int))]) (fun ⟨i,j,b,f⟩=>[]) (fun ⟨i,j,b,f⟩=>MI (Bj_ pattern) (Bj_ key) i j b f) (fun ⟨i,j,b,f⟩=>mmu (Bj_ pattern) (Bj_ key) j b f) ⟨0,0,(-1),0⟩ ⟨rfl,rfl,rfl,rfl,trivial⟩ trivial ?_ ?_
  · exact MI.start _ _
  rintro⟨i,j,b,f⟩ hp3;have hmi:=hp3;have hwp:=Rh_ pattern;have hwk:=Rh_ key;have :=hmi.hi;have :=hmi.hj;have :=hmi.hf;have :=hmi.hb;have :=hmi.hbi;refine gx tv7 9 ?_;refine cnd rfl (fun h4=>?_) (fun h4=>?_)
  · have p5:=dt h4;obtain⟨c6,hc7⟩:=getJ (Bj_ pattern) i;refine gx tv7 13 ?_;refine q1g [25,26] rfl (fun hc=>qidx tv7 i rfl rfl rfl (hc7 (by first|omega|(simp only[gOf,bl2] at *;omega))) rfl rfl rfl rfl) ⟨(fun hc=>hc),(fun hc=>hc),trivial⟩ rfl rfl rfl fun _=>?_;refine gy tv7 6 ?_;refine cnd rfl (fun h8=>?_) (fun h8=>?_)
    · have h9:=bl h8;have p10:=dt h9;have h11:=br h8;have p12:=dt h11;refine gy tv7 15 ?_;obtain⟨c13,hc14⟩:=getE (xs:=Bj_ key) (m:=j) (by omega);refine next ⟨(i+1),j,((i:Int)+1),j⟩ rfl rfl ⟨(congrArg (PV.int .i64) (by omega)),rfl,rfl,rfl,trivial⟩ trivial ?_ ?_
      · exact mmu_hash hmi (by omega)
      exact MI.hash hmi (by rw[(hc7 (by first|omega|(simp only[gOf,bl2] at *;omega)))];simp[*])
    refine gx tv7 1 ?_;refine aN [0,1,2,3,4,5] 23 mixd ?_;refine gX tv7 [0,1,2,3,4,5,6] 16 ?_;refine vqg 7 [41,42] rfl (by kernel_rfl) rfl rfl (fun hc=>qidx tv7 i rfl rfl rfl (hc7 (by first|omega|(simp only[gOf,bl2] at *;omega))) rfl rfl rfl rfl) ⟨(fun hc=>hc),(fun hc=>hc),trivial⟩ rfl fun _=>?_;refine gXy tv7 [8,9,10,11,12] 10 ?_;refine vqg 13 [47,48] rfl (by kernel_rfl) rfl rfl (fun hc=>qidx tv7 i rfl rfl rfl (hc7 (by first|omega|(simp only[gOf,bl2] at *;omega))) rfl rfl rfl rfl) ⟨(fun hc=>hc),(fun hc=>hc),trivial⟩ rfl fun _=>?_;refine gXy tv7 [14,15,16] 6 ?_;obtain⟨c15,hc16⟩:=getJ (Bj_ key) j;refine vqg 17 [51,52] rfl (by kernel_rfl) rfl rfl (fun hc=>qidx tv7 j rfl rfl rfl (hc16 (by first|omega|(simp only[gOf,bl2] at *;omega))) rfl rfl rfl rfl) ⟨(fun hc=>hc),(fun hc=>hc),trivial⟩ rfl fun _=>?_;refine gXy tv7 [18,19,20,21,22] 0 ?_;refine vD ?_;refine gx tv7 1 ?_;refine cnd rfl (fun h17=>?_) (fun h17=>?_)
    · have h18:=bl h17;have p19:=dt h18;have h20:=br h17;refine gy tv7 10 ?_;refine next ⟨(i+1),(j+1),b,f⟩ rfl rfl ⟨(congrArg (PV.int .i64) (by omega)),rfl,rfl,rfl,trivial⟩ trivial ?_ ?_
      · exact mmu_step (by omega)
      first|exact MI.step hmi (hc7 (by first|omega|(simp only[gOf,bl2] at *;omega))) (hc16 (by first|omega|(simp only[gOf,bl2] at *;omega))) (by assumption) (by first|exact .inl (by assumption)|exact .inr (by assumption))|exact MI.step hmi (hc7 (by first|omega|(simp only[gOf,bl2] at *;omega))) (hc16 (by first|omega|(simp only[gOf,bl2] at *;omega))) (by simp_all) (by first|(left;simp_all;done)|(right;simp_all;done)|grind)
    refine gx tv7 7 ?_;refine cnd rfl (fun h21=>?_) (fun h21=>?_)
    · have p22:=dt h21;refine gy tv7 15 ?_;have hbad:∀ w,(Bj_ pattern)[i]? = some w->w≠[35]/\w≠[42]/\w≠c15:=by
        intro w hw;obtain⟨hlt,_⟩:=List.getElem?_eq_some_iff.1 hw
        rw[(hc7 (by first|omega|(simp only[gOf,bl2] at *;omega)))] at hw;cases hw
        first|exact⟨by assumption,by assumption,by assumption⟩|(refine⟨?_,?_,?_⟩<;>intro q<;>simp_all)
      refine next ⟨b.toNat,(f+1),b,(f+1)⟩ rfl rfl ⟨(congrArg (PV.int .i64) (by omega)),rfl,rfl,rfl,trivial⟩ trivial ?_ ?_
      · exact mmu_back hmi.hf (by omega)
      exact MI.back hmi (hc16 (by first|omega|(simp only[gOf,bl2] at *;omega))) (by omega) hbad
    have p23:=df h21;refine gx tv7 11 ?_;refine rt1 rfl rfl (ple ?_);have hbad:∀ w,(Bj_ pattern)[i]? = some w->w≠[35]/\w≠[42]/\w≠c15:=by
      intro w hw;obtain⟨hlt,_⟩:=List.getElem?_eq_some_iff.1 hw
      rw[(hc7 (by first|omega|(simp only[gOf,bl2] at *;omega)))] at hw;cases hw
      first|exact⟨by assumption,by assumption,by assumption⟩|(refine⟨?_,?_,?_⟩<;>intro q<;>simp_all)
    exact congrArg PV.bool (MI.none hmi (hc16 (by first|omega|(simp only[gOf,bl2] at *;omega))) (by omega) hbad).symm
  have p24:=df h4;refine gx tv7 7 ?_;refine loop (ι:=Nat) [0,1,5,6,8,9,10,11,12,13,14,15,16,17,18] [] (fun q=>[(7, .int .i64 (q:Int))]) (fun q=>[]) (fun q=>q<=(Bj_ pattern).length/\mt (Bj_ pattern) (Bj_ key)=mt ((Bj_ pattern).drop q) []) (fun q=>(Bj_ pattern).length-q) i ⟨rfl,trivial⟩ trivial ?_ ?_
  · exact⟨by omega,hmi.fin (by omega)⟩
  rintro q hp25;obtain⟨hq1,hq2⟩:=hp25;obtain⟨c26,hc27⟩:=getJ (Bj_ pattern) q;refine gx tv7 10 ?_;refine q1g [74,75] rfl (fun hc=>qidx tv7 q rfl rfl rfl (hc27 (by first|omega|(simp only[gOf,bl2] at *;omega))) rfl rfl rfl rfl) ⟨(fun hc=>hc),(fun hc=>hc),trivial⟩ rfl rfl rfl fun _=>?_;refine gy tv7 5 ?_;refine cnd rfl (fun h28=>?_) (fun h28=>?_)
  · have h29:=bl h28;have p30:=dt h29;have h31:=br h28;have p32:=dt h31;refine gy tv7 9 ?_;refine next (q+1) rfl rfl ⟨rfl,trivial⟩ trivial ?_ ?_
    · omega
    exact⟨by omega,mt_end hq2 (by rw[(hc27 (by first|omega|(simp only[gOf,bl2] at *;omega)))];simp[*])⟩
  refine gx tv7 15 ?_;refine rt1 rfl rfl (ple ?_);refine congrArg PV.bool ?_
  rw[hq2]
  by_cases hql:q<(Bj_ pattern).length
  · rw[mt_endN (hc27 (by first|omega|(simp only[gOf,bl2] at *;omega))) (by first|assumption|simp_all)]
    rw[decide_eq_false_iff_not];omega
  have hqe:q=(Bj_ pattern).length:=by omega
  subst hqe
  rw[List.drop_length];simp[mt]
theorem Wj_ (s:Bs):Fn Tryz.prog gb 275 [.str s] (.int .i64 (keyE patB s)):=by
  refine fC Tryz.func275 tv7 Tryz.ntmps275 fun w N H hG=>?_;refine gx tv7 8 ?_;refine ef (bsl 0 strc [[42],[35]] tv7 rfl rfl rfl rfl rfl (fun _=>rfl) rfl (by decide) (by decide) rfl fun u1=>?_);refine ef (calll 0 rfl (Y2_ _ _) rfl rfl rfl fun w2=>?_);refine gx tv7 4 ?_;refine rt1 rfl rfl (ple ?_)
  rfl
def tbv8:Tb:=[(2,ty2),(3,ty3),(5,ty5),(9,ty9),(22,ty22),(67,ty67),(169,ty169),(268,ty268)]
theorem tv8:tbB Tryz.prog tbv8=true:=by kernel_rfl
theorem Nc_ (h:List Pair):Fn Tryz.prog gb 75 [.sl Pair.pc h] (.tup [.str (B8_ h), .int .i64 (Fo_ h)]):=by
  refine fC Tryz.func75 tv8 Tryz.ntmps75 fun w N H hG=>?_;have h_l:h.length<=140737488355328:=w.1.1;refine gx tv8 10 ?_;refine call (J4_ _) rfl rfl fun w1=>?_;refine gx tv8 9 ?_;refine cnd rfl (fun h2=>?_) (fun h2=>?_)
  · have h3:=Ds_ h2;have p4:=df h3;refine gx tv8 9 ?_;refine rt2 rfl rfl ?_;refine ple ?_
    unfold B8_
    rw[if_neg (by omega)]
  have h5:=D2_ h2;have p6:=dt h5;refine gx tv8 7 ?_;refine q1 (qconv tv8 rfl rfl rfl rfl (Tg_ (by omega))) rfl fun w7=>?_;refine call (out_Num (⟨[],0⟩:Out) _ _ (by ((try have :=hrl (by assumption));first|omega|(simp[C_,Cm_,Q_,numK]<;>omega)))) rfl rfl fun w8=>?_;have nl0:(⟨[],0⟩:Out).s.length=0:=rfl;have :=Ai_ (⟨[],0⟩:Out) (h.length:Int) 1;refine gm tv8 13 [0] fun B10=>?_;refine loop (ι:=Nat×Out) [0,2,3,4,5,8,9,10,11,13,14,15,16,17,18,19] [] (fun ⟨k,o⟩=>[(20, .int .i64 (k:Int))]) (fun ⟨k,o⟩=>[(0, .box (B10 0) 169 [.str o.s, .int .i64 o.err])]) (fun ⟨k,o⟩=>k<=h.length/\h.foldl Gv_ (C_ ⟨[],0⟩ h.length 1)=(h.drop k).foldl Gv_ o/\o.s.length<=8+110*k) (fun ⟨k,o⟩=>h.length-k) ⟨0,(C_ (⟨[],0⟩:Out) (h.length:Int) 1)⟩ ⟨rfl,trivial⟩ ⟨rfl,trivial⟩ ?_ ?_
  · exact⟨Nat.zero_le _,rfl,by simp at *;omega⟩
  rintro⟨k,o⟩ hp11;obtain⟨hk1,hk2,hk3⟩:=hp11;have hok:=Nb_ (h:=h) (by assumption);refine gx tv8 6 ?_;refine cn rfl (fun p13=>?_) fun p36=>?_
  · obtain⟨c14,hc15⟩:=getE (xs:=h) (m:=k) (by omega);have hpk:=hok.2 c14 (List.mem_of_getElem? hc15);have c14_w:=Pair.pwf (w.1.2 c14 (List.mem_of_getElem? hc15));refine gx tv8 6 ?_;refine q1 (qidx tv8 k rfl rfl rfl hc15 rfl rfl rfl rfl) rfl fun w16=>?_;refine gm tv8 6 [1] fun B18=>?_;refine aN [2,3,4,5,6,7] 9 mixd ?_;refine gX tv8 [0,1,2] 6 ?_;refine vC 3 rfl (D9_ _ _) rfl fun w19=>?_;have :=Ar_ o c14.key;refine gX tv8 [4,5,6] 2 ?_;refine vC 7 rfl (out_Num _ _ _ (by ((try have :=hrl (by assumption));first|omega|(simp[C_,Cm_,Q_,numK]<;>omega)))) rfl fun w20=>?_;have :=Ai_ (F_ o c14.key) c14.kind 1;refine vT 8 rfl (sA tv8 ?_);refine vD ?_;refine gx tv8 14 ?_;refine cn rfl (fun p22=>?_) fun p25=>?_
    · refine gx tv8 5 ?_;refine call (out_Num _ _ _ (by ((try have :=hrl (by assumption));first|omega|(simp[C_,Cm_,Q_,numK]<;>omega)))) rfl rfl fun w23=>?_;have :=Ai_ (C_ (F_ o c14.key) c14.kind 1) (IntKind.wrap .u64 c14.num) 8;refine gmy tv8 9 [] fun _=>?_;refine next ⟨(k+1),(C_ (C_ (F_ o c14.key) c14.kind 1) (IntKind.wrap .u64 c14.num) 8)⟩ rfl rfl ⟨rfl,trivial⟩ ⟨rfl,trivial⟩ ?_ ?_
      · simp only[];omega
      have e:(C_ (C_ (F_ o c14.key) c14.kind 1) (IntKind.wrap .u64 c14.num) 8)=Gv_ o c14:=by unfold Gv_;first|(rw[if_pos (by omega)];done)|(rw[if_neg (by omega),if_pos (by omega)];done)|(rw[if_neg (by omega),if_neg (by omega),if_pos (by omega)];done)|(rw[if_neg (by omega),if_neg (by omega),if_neg (by omega)];done)
      simp only[]
      rw[e]
      have hlo:=Kh_ (o:=o) (hok.2 c14 (List.mem_of_getElem? hc15));refine⟨by omega,?_,by omega⟩
      rw[hk2,C4_ hc15,List.foldl_cons]
    refine gx tv8 6 ?_;refine cn rfl (fun p27=>?_) fun p30=>?_
    · refine gx tv8 4 ?_;refine call (D9_ _ _) rfl rfl fun w28=>?_;have :=Ar_ (C_ (F_ o c14.key) c14.kind 1) c14.text;refine gmy tv8 9 [] fun _=>?_;refine next ⟨(k+1),(F_ (C_ (F_ o c14.key) c14.kind 1) c14.text)⟩ rfl rfl ⟨rfl,trivial⟩ ⟨rfl,trivial⟩ ?_ ?_
      · simp only[];omega
      have e:(F_ (C_ (F_ o c14.key) c14.kind 1) c14.text)=Gv_ o c14:=by unfold Gv_;first|(rw[if_pos (by omega)];done)|(rw[if_neg (by omega),if_pos (by omega)];done)|(rw[if_neg (by omega),if_neg (by omega),if_pos (by omega)];done)|(rw[if_neg (by omega),if_neg (by omega),if_neg (by omega)];done)
      simp only[]
      rw[e]
      have hlo:=Kh_ (o:=o) (hok.2 c14 (List.mem_of_getElem? hc15));refine⟨by omega,?_,by omega⟩
      rw[hk2,C4_ hc15,List.foldl_cons]
    refine gx tv8 6 ?_;refine cn rfl (fun p32=>?_) fun p35=>?_
    · refine gx tv8 5 ?_;refine call (out_Num _ _ _ (by ((try have :=hrl (by assumption));first|omega|(simp[C_,Cm_,Q_,numK]<;>omega)))) rfl rfl fun w33=>?_;have :=Ai_ (C_ (F_ o c14.key) c14.kind 1) (IntKind.wrap .u64 c14.num) 1;refine gmy tv8 9 [] fun _=>?_;refine next ⟨(k+1),(C_ (C_ (F_ o c14.key) c14.kind 1) (IntKind.wrap .u64 c14.num) 1)⟩ rfl rfl ⟨rfl,trivial⟩ ⟨rfl,trivial⟩ ?_ ?_
      · simp only[];omega
      have e:(C_ (C_ (F_ o c14.key) c14.kind 1) (IntKind.wrap .u64 c14.num) 1)=Gv_ o c14:=by unfold Gv_;first|(rw[if_pos (by omega)];done)|(rw[if_neg (by omega),if_pos (by omega)];done)|(rw[if_neg (by omega),if_neg (by omega),if_pos (by omega)];done)|(rw[if_neg (by omega),if_neg (by omega),if_neg (by omega)];done)
      simp only[]
      rw[e]
      have hlo:=Kh_ (o:=o) (hok.2 c14 (List.mem_of_getElem? hc15));refine⟨by omega,?_,by omega⟩
      rw[hk2,C4_ hc15,List.foldl_cons]
    refine gy tv8 8 ?_;refine next ⟨(k+1),(C_ (F_ o c14.key) c14.kind 1)⟩ rfl rfl ⟨rfl,trivial⟩ ⟨rfl,trivial⟩ ?_ ?_
    · simp only[];omega
    have e:(C_ (F_ o c14.key) c14.kind 1)=Gv_ o c14:=by unfold Gv_;first|(rw[if_pos (by omega)];done)|(rw[if_neg (by omega),if_pos (by omega)];done)|(rw[if_neg (by omega),if_neg (by omega),if_pos (by omega)];done)|(rw[if_neg (by omega),if_neg (by omega),if_neg (by omega)];done)
    simp only[]
    rw[e]
    have hlo:=Kh_ (o:=o) (hok.2 c14 (List.mem_of_getElem? hc15));refine⟨by omega,?_,by omega⟩
    rw[hk2,C4_ hc15,List.foldl_cons]
  refine gx tv8 8 ?_;refine call (Dp_ _) rfl rfl fun w37=>?_;refine gx tv8 5 ?_;refine rt2 rfl rfl ?_;refine ple ?_
  unfold B8_
  rw[if_pos (by assumption)]
  rw[List.drop_of_length_le (by omega),List.foldl_nil] at hk2
  rw[show Rw_ h=o from hk2]
  have e0:Fo_ h=0:=by assumption
  rw[e0]
theorem ag22:Ag Tryz.prog 22 false:=fun w=>by kernel_rfl
theorem eqg64:Tryz.prog.eqGuardType Tryz.prog.depth 64=false:=by kernel_rfl
theorem eqg66:Tryz.prog.eqGuardType Tryz.prog.depth 66=false:=by kernel_rfl
theorem veq64 (p q:ShopR):∀ (H:Hp) (vs us:List Value),Sims H (ShopR.pc p) vs->Sims H (ShopR.pc q) us->EqV Tryz.prog 10000 64 (.agg vs.toArray) (.agg us.toArray) (decide (p=q)):=by
  intro H vs us hv hu;obtain⟨_,_,rfl,v0,v_0⟩:=hv.inv_cons;obtain⟨_,_,rfl,v1,v_1⟩:=v_0.inv_cons;obtain⟨_,_,rfl,v2,v_2⟩:=v_1.inv_cons
  cases v_2.inv_nil
  cases v0.inv_str.1;cases v1.inv_int.1;cases v2.inv_str.1
  obtain⟨_,_,rfl,u0,u_0⟩:=hu.inv_cons;obtain⟨_,_,rfl,u1,u_1⟩:=u_0.inv_cons;obtain⟨_,_,rfl,u2,u_2⟩:=u_1.inv_cons
  cases u_2.inv_nil
  cases u0.inv_str.1;cases u1.inv_int.1;cases u2.inv_str.1
  exact EqV.to' (Vb_ Tryz.underlying64 (by kernel_rfl) (Pr_ (by decide) ag9 rfl rfl (Ps_ Tryz.underlying9) (Pr_ (by decide) ag5 rfl rfl (Nx_ Tryz.underlying5) (Pr_ (by decide) ag9 rfl rfl (Ps_ Tryz.underlying9) U9_)))) (by obtain⟨a0,a1,a2⟩:=p;obtain⟨b0,b1,b2⟩:=q;rw[Bool.eq_iff_iff];simp)
theorem veq66 (p q:QueueR):∀ (H:Hp) (vs us:List Value),Sims H (QueueR.pc p) vs->Sims H (QueueR.pc q) us->EqV Tryz.prog 10000 66 (.agg vs.toArray) (.agg us.toArray) (decide (p=q)):=by
  intro H vs us hv hu;obtain⟨_,_,rfl,v0,v_0⟩:=hv.inv_cons;obtain⟨_,_,rfl,v1,v_1⟩:=v_0.inv_cons;obtain⟨_,_,rfl,v2,v_2⟩:=v_1.inv_cons;obtain⟨_,_,rfl,v3,v_3⟩:=v_2.inv_cons
  cases v_3.inv_nil
  cases v0.inv_str.1;cases v1.inv_int.1;cases v2.inv_int.1;cases v3.inv_str.1
  obtain⟨_,_,rfl,u0,u_0⟩:=hu.inv_cons;obtain⟨_,_,rfl,u1,u_1⟩:=u_0.inv_cons;obtain⟨_,_,rfl,u2,u_2⟩:=u_1.inv_cons;obtain⟨_,_,rfl,u3,u_3⟩:=u_2.inv_cons
  cases u_3.inv_nil
  cases u0.inv_str.1;cases u1.inv_int.1;cases u2.inv_int.1;cases u3.inv_str.1
  exact EqV.to' (Vb_ Tryz.underlying66 (by kernel_rfl) (Pr_ (by decide) ag9 rfl rfl (Ps_ Tryz.underlying9) (Pr_ (by decide) ag22 rfl rfl (Nx_ Tryz.underlying22) (Pr_ (by decide) ag22 rfl rfl (Nx_ Tryz.underlying22) (Pr_ (by decide) ag9 rfl rfl (Ps_ Tryz.underlying9) U9_))))) (by obtain⟨a0,a1,a2,a3⟩:=p;obtain⟨b0,b1,b2,b3⟩:=q;rw[Bool.eq_iff_iff];simp)
abbrev ty64:TI:=⟨.agg [(0,1),(1,1),(2,1)],3,40,[.str [], .int .u8 0, .str []]⟩
abbrev ty66:TI:=⟨.agg [(0,1),(1,1),(2,1),(3,1)],4,48,[.str [], .int .u64 0, .int .u64 0, .str []]⟩
abbrev ty71:TI:=⟨.agg [(0,1),(1,1),(2,1),(3,1),(4,1),(5,1),(6,1)],7,96,[.int .u64 0, .str [], .str [], .sl Pair.pc [], .str [], .int .u64 0, .int .u8 0]⟩
abbrev ty73:TI:=⟨.agg [(0,1),(1,1),(2,3),(5,4),(9,6),(15,1),(16,1),(17,1),(18,1),(19,1),(20,1),(21,7),(28,1)],29,344,[.int .u8 0, .int .u64 0, .str [], .int .u8 0, .str [], .str [], .int .u64 0, .int .u64 0, .str [], .str [], .str [], .bool false, .str [], .sl Pair.pc [], .bool false, .str [], .int .u64 0, .int .u8 0, .int .u8 0, .int .u8 0, .int .u64 0, .int .u64 0, .str [], .str [], .sl Pair.pc [], .str [], .int .u64 0, .int .u8 0, .str []]⟩
def tbv14:Tb:=[(5,ty5),(9,ty9),(22,ty22),(64,ty64),(66,ty66),(67,ty67),(69,ty69),(71,ty71),(73,ty73),(169,ty169)]
theorem tv14:tbB Tryz.prog tbv14=true:=by kernel_rfl
theorem J5_ (m:Mail):Fn Tryz.prog gb 113 [.agg (Mail.pc m)] (.int .i64 (E7_ m)):=by
  refine fC Tryz.func113 tv14 Tryz.ntmps113 fun w N H hG=>?_;refine gm tv14 11 [0] fun B2=>?_;refine call (Dd_ _) rfl rfl fun w3=>?_;refine gx tv14 9 ?_;refine cnd rfl (fun h4=>?_) (fun h4=>?_)
  · have h5:=Ds_ h4;have p6:=df h5;refine gx tv14 8 ?_;refine rt1 rfl rfl (ple ?_);refine congrArg (PV.int .i64) ?_
    simp only[bl1] at *
    unfold E7_
    (repeat' split)<;>first|rfl|(exfalso;omega)|(exfalso;simp_all;done)|(exfalso;simp_all;omega)|grind
  have h7:=D2_ h4;have p8:=dt h7;refine gx tv14 7 ?_;refine call (Y1_ _) rfl rfl fun w9=>?_;refine gx tv14 9 ?_;refine cnd rfl (fun h10=>?_) (fun h10=>?_)
  · have h11:=Ds_ h10;have p12:=df h11;refine gx tv14 8 ?_;refine rt1 rfl rfl (ple ?_);refine congrArg (PV.int .i64) ?_
    simp only[bl1] at *
    unfold E7_
    (repeat' split)<;>first|rfl|(exfalso;omega)|(exfalso;simp_all;done)|(exfalso;simp_all;omega)|grind
  have h13:=D2_ h10;have p14:=dt h13;refine gx tv14 7 ?_;refine call (J4_ _) rfl rfl fun w15=>?_;refine gx tv14 11 ?_;refine cnd rfl (fun h16=>?_) (fun h16=>?_)
  · have h17:=Ds_ h16;have p18:=df h17;refine gx tv14 9 ?_;refine rt1 rfl rfl (ple ?_);refine congrArg (PV.int .i64) ?_
    simp only[bl1] at *
    unfold E7_
    (repeat' split)<;>first|rfl|(exfalso;omega)|(exfalso;simp_all;done)|(exfalso;simp_all;omega)|grind
  have h19:=D2_ h16;have p20:=dt h19;refine gx tv14 9 ?_;refine cnd rfl (fun h21=>?_) (fun h21=>?_)
  · have p22:=dt h21;refine gx tv14 8 ?_;refine rt1 rfl rfl (ple ?_);refine congrArg (PV.int .i64) ?_
    simp only[bl1] at *
    unfold E7_
    (repeat' split)<;>first|rfl|(exfalso;omega)|(exfalso;simp_all;done)|(exfalso;simp_all;omega)|grind
  have p23:=df h21;refine gx tv14 8 ?_;refine cnd rfl (fun h24=>?_) (fun h24=>?_)
  · have p25:=dt h24;refine gx tv14 8 ?_;refine rt1 rfl rfl (ple ?_);refine congrArg (PV.int .i64) ?_
    simp only[bl1] at *
    unfold E7_
    (repeat' split)<;>first|rfl|(exfalso;omega)|(exfalso;simp_all;done)|(exfalso;simp_all;omega)|grind
  have p26:=df h24;refine gx tv14 9 ?_;refine rt1 rfl rfl (ple ?_);refine congrArg (PV.int .i64) ?_
  simp only[bl1] at *
  unfold E7_
  (repeat' split)<;>first|rfl|(exfalso;omega)|(exfalso;simp_all;done)|(exfalso;simp_all;omega)|grind
theorem P6_ (m:Mail):Fn Tryz.prog gb 158 [.agg (Mail.pc m)] (.tup [.str (Dy_ m), .int .i64 (E7_ m)]):=by
  refine fC Tryz.func158 tv14 Tryz.ntmps158 fun w N H hG=>?_;have m_w:=Mail.pwf w.1;have m_w':=m_w
  simp only[Mail.wf] at m_w'
  have m_head_k:=Mail.kd3 w.1;have m_head_k2:m.head.length<=140737488355328:=w.1.2.2.2.1.1;refine gm tv14 11 [0] fun B2=>?_;refine call (J5_ _) rfl rfl fun w3=>?_;have :=Mq_ m;have hmo3:=fun h=>G1_ (m:=m) h;refine gx tv14 9 ?_;refine cnd rfl (fun h4=>?_) (fun h4=>?_)
  · have h5:=Ds_ h4;have p6:=df h5;refine gx tv14 9 ?_;refine rt2 rfl rfl ?_;refine ple ?_
    simp[Dy_,S0_, *]
  have h7:=D2_ h4;have p8:=dt h7;refine gx tv14 6 ?_;refine call (Nc_ _) rfl rfl fun w9=>?_;have :=Gb_ m.head;refine gx tv14 8 ?_;refine aN [1,2,3,4,5,6] 17 mixd ?_;refine gX tv14 [0,1,2] 14 ?_;refine vC 3 rfl (out_Num (⟨[],0⟩:Out) _ _ (by ((try have :=hrl (by assumption));first|omega|(simp[C_,Cm_,Q_,numK]<;>omega)))) rfl fun w10=>?_;have nl0:(⟨[],0⟩:Out).s.length=0:=rfl;have :=Ai_ (⟨[],0⟩:Out) m.id 8;refine gX tv14 [4,5] 11 ?_;refine vC 6 rfl (D9_ _ _) rfl fun w11=>?_;have :=Ar_ (C_ (⟨[],0⟩:Out) m.id 8) m.shop;refine gX tv14 [7,8] 8 ?_;refine vC 9 rfl (D9_ _ _) rfl fun w12=>?_;have :=Ar_ (F_ (C_ (⟨[],0⟩:Out) m.id 8) m.shop) m.key;refine gX tv14 [10] 6 ?_;refine vC 11 rfl (Qa_ _ _) rfl fun w13=>?_;have :=Ia_ (F_ (F_ (C_ (⟨[],0⟩:Out) m.id 8) m.shop) m.key) (B8_ m.head);refine gX tv14 [12,13] 3 ?_;refine vC 14 rfl (D9_ _ _) rfl fun w14=>?_;have :=Ar_ (Cm_ (F_ (F_ (C_ (⟨[],0⟩:Out) m.id 8) m.shop) m.key) (B8_ m.head)) m.body;refine vE 15 rfl (aL tv14 1 fun b15=>?_);refine vT 16 rfl (sA tv14 ?_);refine vD ?_;refine gx tv14 2 ?_;refine aN [2,3,4,5,6,7] 11 mixd ?_;refine gX tv14 [0,1,2] 8 ?_;refine vC 3 rfl (out_Num _ _ _ (by ((try have :=hrl (by assumption));first|omega|(simp[C_,Cm_,Q_,numK]<;>omega)))) rfl fun w16=>?_;have :=Ai_ (F_ (Cm_ (F_ (F_ (C_ (⟨[],0⟩:Out) m.id 8) m.shop) m.key) (B8_ m.head)) m.body) m.due 8;refine gX tv14 [4,5,6] 4 ?_;refine vC 7 rfl (out_Num _ _ _ (by ((try have :=hrl (by assumption));first|omega|(simp[C_,Cm_,Q_,numK]<;>omega)))) rfl fun w17=>?_;have :=Ai_ (C_ (F_ (Cm_ (F_ (F_ (C_ (⟨[],0⟩:Out) m.id 8) m.shop) m.key) (B8_ m.head)) m.body) m.due 8) m.hops 1;refine vC 8 rfl (Dp_ _) rfl fun w18=>?_;refine gX tv14 [9,10] 0 ?_;refine vD ?_;refine gx tv14 2 ?_;refine rt2 rfl rfl ?_;refine ple ?_
  simp[Dy_,S0_, *]
theorem T7_ (s:Bs):Fn Tryz.prog gb 111 [.str s] (.int .i64 (L8_ s)):=by
  refine fC Tryz.func111 tv14 Tryz.ntmps111 fun w N H hG=>?_;refine gx tv14 12 ?_;refine cn rfl (fun p2=>?_) fun p3=>?_
  · refine gx tv14 7 ?_;refine rt1 rfl rfl (ple ?_)
    simp[L8_, *]
  refine gx tv14 5 ?_;refine call (Dd_ _) rfl rfl fun w4=>?_;refine gx tv14 4 ?_;refine rt1 rfl rfl (ple ?_)
  simp[L8_, *]
theorem Lh_ (b:Bool) (e:Int):Fn Tryz.prog gb 110 [.bool b, .int .i64 e] (.int .i64 (Hq_ b e)):=by
  refine fC Tryz.func110 tv14 Tryz.ntmps110 fun w N H hG=>?_;refine gx tv14 11 ?_;refine cnd rfl (fun h1=>?_) (fun h1=>?_)
  · refine gx tv14 8 ?_;refine rt1 rfl rfl (ple ?_)
    simp[Hq_, *]
  refine gx tv14 8 ?_;refine rt1 rfl rfl (ple ?_)
  simp[Hq_, *]
theorem mail_Same (a:Mail) (b:Mail):Fn Tryz.prog gb 189 [.agg (Mail.pc a), .agg (Mail.pc b)] (.bool (decide (a=b))):=by
  refine fC Tryz.func189 tv14 Tryz.ntmps189 fun w N H hG=>?_;refine gmy tv14 33 [0,1] fun B2=>?_;refine callg rfl (fun hc=>(W5_ _ _)) rfl ⟨(fun hc=>hc),(fun hc=>hc),trivial⟩ rfl rfl fun _=>?_;refine gy tv14 26 ?_;refine rt1 rfl rfl (ple ?_);exact congrArg PV.bool (by rw[Bool.eq_iff_iff];first|(simp[Mail.eq_iff,and_assoc];done)|(simp[Mail.eq_iff];grind))
theorem deed_Same (a:DeedR) (b:DeedR):Fn Tryz.prog gb 106 [.agg (DeedR.pc a), .agg (DeedR.pc b)] (.bool (decide (a=b))):=by
  refine fC Tryz.func106 tv14 Tryz.ntmps106 fun w N H hG=>?_;refine gmy tv14 26 [0,1] fun B2=>?_;refine q1g [19,21] rfl (fun hc=>saeq rfl rfl eqg64 (veq64 a.shop b.shop)) ⟨(fun hc=>hc),(fun hc=>hc),trivial⟩ rfl rfl rfl fun _=>?_;refine gy tv14 6 ?_;refine q1g [26,28] rfl (fun hc=>saeq rfl rfl eqg66 (veq66 a.queue b.queue)) ⟨(fun hc=>hc),(fun hc=>hc),trivial⟩ rfl rfl rfl fun _=>?_;refine gy tv14 6 ?_;refine callg rfl (fun hc=>(U8_ _ _)) rfl ⟨(fun hc=>hc),(fun hc=>hc),trivial⟩ rfl rfl fun _=>?_;refine gy tv14 48 ?_;refine callg rfl (fun hc=>(mail_Same _ _)) rfl ⟨(fun hc=>hc),(fun hc=>hc),trivial⟩ rfl rfl fun _=>?_;refine gy tv14 12 ?_;refine rt1 rfl rfl (ple ?_);exact congrArg PV.bool (by rw[Bool.eq_iff_iff];first|(simp[DeedR.eq_iff,and_assoc];done)|(simp[DeedR.eq_iff];grind))
abbrev ty292:TI:=⟨.slc 78,1,24,[.sl i64c []]⟩
def tbv15:Tb:=[(5,ty5),(9,ty9),(22,ty22),(64,ty64),(66,ty66),(67,ty67),(69,ty69),(71,ty71),(73,ty73),(78,ty78),(292,ty292)]
theorem tv15:tbB Tryz.prog tbv15=true:=by kernel_rfl
theorem deed_told (d:DeedR):Fn Tryz.prog gb 107 [.agg (DeedR.pc d)] (.agg (DeedR.pc (G2_ d))):=by
  refine fC Tryz.func107 tv15 Tryz.ntmps107 fun w N H hG=>?_;refine gm tv15 31 [0,1,2] fun B2=>?_;refine cn rfl (fun p6=>?_) fun p8=>?_
  · refine gm tv15 15 [] fun _=>?_;refine rt1 rfl rfl (ple ?_);have e:G2_ d=(⟨d.kind,d.tick,d.shop,(⟨[],0,0,[]⟩:QueueR),(⟨[],[],false,[],[],false⟩:BindR),[],0,0,0,0,0,(⟨0,[],[],[],[],0,0⟩:Mail),[]⟩:DeedR):=by
      unfold G2_
      repeat (first|rw[if_pos (by omega)]|rw[if_neg (by omega)])
      rfl
    rw[e];rfl
  refine gx tv15 6 ?_;refine cn rfl (fun p10=>?_) fun p12=>?_
  · refine gm tv15 15 [] fun _=>?_;refine rt1 rfl rfl (ple ?_);have e:G2_ d=(⟨d.kind,d.tick,(⟨[],0,[]⟩:ShopR),d.queue,(⟨[],[],false,[],[],false⟩:BindR),[],0,0,0,0,0,(⟨0,[],[],[],[],0,0⟩:Mail),[]⟩:DeedR):=by
      unfold G2_
      repeat (first|rw[if_pos (by omega)]|rw[if_neg (by omega)])
      rfl
    rw[e];rfl
  refine gx tv15 7 ?_;refine cnd rfl (fun h13=>?_) (fun h13=>?_)
  · have p14:=dt h13;refine gx tv15 2 ?_;refine cndT rfl h13 ?_;refine gm tv15 15 [] fun _=>?_;refine rt1 rfl rfl (ple ?_);have e:G2_ d=(⟨d.kind,d.tick,(⟨[],0,[]⟩:ShopR),(⟨[],0,0,[]⟩:QueueR),d.bind,[],0,0,0,0,0,(⟨0,[],[],[],[],0,0⟩:Mail),[]⟩:DeedR):=by
      unfold G2_
      repeat (first|rw[if_pos (by omega)]|rw[if_neg (by omega)])
      rfl
    rw[e];rfl
  have p16:=df h13;refine gx tv15 5 ?_;refine cn rfl (fun p18=>?_) fun p20=>?_
  · refine gm tv15 15 [] fun _=>?_;refine rt1 rfl rfl (ple ?_);have e:G2_ d=(⟨d.kind,d.tick,(⟨[],0,[]⟩:ShopR),(⟨[],0,0,[]⟩:QueueR),d.bind,[],0,0,0,0,0,(⟨0,[],[],[],[],0,0⟩:Mail),[]⟩:DeedR):=by
      unfold G2_
      repeat (first|rw[if_pos (by omega)]|rw[if_neg (by omega)])
      rfl
    rw[e];rfl
  refine gx tv15 6 ?_;refine cn rfl (fun p22=>?_) fun p24=>?_
  · refine gm tv15 15 [] fun _=>?_;refine rt1 rfl rfl (ple ?_);have e:G2_ d=(⟨d.kind,d.tick,(⟨[],0,[]⟩:ShopR),(⟨[],0,0,[]⟩:QueueR),(⟨[],[],false,[],[],false⟩:BindR),[],0,0,0,0,0,d.mail,[]⟩:DeedR):=by
      unfold G2_
      repeat (first|rw[if_pos (by omega)]|rw[if_neg (by omega)])
      rfl
    rw[e];rfl
  refine gx tv15 7 ?_;refine cnd rfl (fun h25=>?_) (fun h25=>?_)
  · have p26:=dt h25;refine gx tv15 2 ?_;refine cndT rfl h25 ?_;refine gm tv15 15 [] fun _=>?_;refine rt1 rfl rfl (ple ?_);have e:G2_ d=(⟨d.kind,d.tick,(⟨[],0,[]⟩:ShopR),(⟨[],0,0,[]⟩:QueueR),(⟨[],[],false,[],[],false⟩:BindR),d.name,0,0,0,0,0,(⟨0,[],[],[],[],0,0⟩:Mail),[]⟩:DeedR):=by
      unfold G2_
      repeat (first|rw[if_pos (by omega)]|rw[if_neg (by omega)])
      rfl
    rw[e];rfl
  have p28:=df h25;refine gx tv15 6 ?_;refine cnd rfl (fun h29=>?_) (fun h29=>?_)
  · have p30:=dt h29;refine gx tv15 2 ?_;refine cndT rfl h29 ?_;refine gm tv15 15 [] fun _=>?_;refine rt1 rfl rfl (ple ?_);have e:G2_ d=(⟨d.kind,d.tick,(⟨[],0,[]⟩:ShopR),(⟨[],0,0,[]⟩:QueueR),(⟨[],[],false,[],[],false⟩:BindR),d.name,0,0,0,0,0,(⟨0,[],[],[],[],0,0⟩:Mail),[]⟩:DeedR):=by
      unfold G2_
      repeat (first|rw[if_pos (by omega)]|rw[if_neg (by omega)])
      rfl
    rw[e];rfl
  have p32:=df h29;refine gx tv15 5 ?_;refine cn rfl (fun p34=>?_) fun p36=>?_
  · refine gm tv15 15 [] fun _=>?_;refine rt1 rfl rfl (ple ?_);have e:G2_ d=(⟨d.kind,d.tick,(⟨[],0,[]⟩:ShopR),(⟨[],0,0,[]⟩:QueueR),(⟨[],[],false,[],[],false⟩:BindR),d.name,0,0,0,0,0,(⟨0,[],[],[],[],0,0⟩:Mail),[]⟩:DeedR):=by
      unfold G2_
      repeat (first|rw[if_pos (by omega)]|rw[if_neg (by omega)])
      rfl
    rw[e];rfl
  refine gx tv15 6 ?_;refine cn rfl (fun p38=>?_) fun p40=>?_
  · refine aN [2,3,4,5,6,7,8] 12 mixd ?_;refine gX tv15 [0,1,2,3,4,5,6] 5 ?_;refine vE 7 rfl (sO tv15 ?_);refine gX tv15 [8] 3 ?_;refine vE 9 rfl (sO tv15 ?_);refine gX tv15 [10] 1 ?_;refine vT 11 rfl (sO tv15 ?_);refine vD ?_;refine gm tv15 9 [] fun _=>?_;refine rt1 rfl rfl (ple ?_);have e:G2_ d=(⟨d.kind,d.tick,(⟨[],0,[]⟩:ShopR),(⟨[],0,0,[]⟩:QueueR),(⟨[],[],false,[],[],false⟩:BindR),d.name,d.id,d.how,0,0,0,(⟨0,[],[],[],[],0,0⟩:Mail),[]⟩:DeedR):=by
      unfold G2_
      repeat (first|rw[if_pos (by omega)]|rw[if_neg (by omega)])
      rfl
    rw[e];rfl
  refine gx tv15 6 ?_;refine cn rfl (fun p42=>?_) fun p44=>?_
  · refine aN [2,3,4,5,6,7,8] 12 mixd ?_;refine gX tv15 [0,1,2,3,4,5,6] 5 ?_;refine vE 7 rfl (sO tv15 ?_);refine gX tv15 [8] 3 ?_;refine vE 9 rfl (sO tv15 ?_);refine gX tv15 [10] 1 ?_;refine vT 11 rfl (sA tv15 ?_);refine vD ?_;refine gm tv15 9 [] fun _=>?_;refine rt1 rfl rfl (ple ?_);have e:G2_ d=(⟨d.kind,d.tick,(⟨[],0,[]⟩:ShopR),(⟨[],0,0,[]⟩:QueueR),(⟨[],[],false,[],[],false⟩:BindR),[],0,0,d.frm,0,d.number,d.mail,[]⟩:DeedR):=by
      unfold G2_
      repeat (first|rw[if_pos (by omega)]|rw[if_neg (by omega)])
      rfl
    rw[e];rfl
  refine gx tv15 6 ?_;refine cn rfl (fun p46=>?_) fun p48=>?_
  · refine aN [2,3,4,5,6,7,8] 8 mixd ?_;refine gX tv15 [0,1,2,3,4] 3 ?_;refine vE 5 rfl (sO tv15 ?_);refine gX tv15 [6] 1 ?_;refine vT 7 rfl (sO tv15 ?_);refine vD ?_;refine gm tv15 9 [] fun _=>?_;refine rt1 rfl rfl (ple ?_);have e:G2_ d=(⟨d.kind,d.tick,(⟨[],0,[]⟩:ShopR),(⟨[],0,0,[]⟩:QueueR),(⟨[],[],false,[],[],false⟩:BindR),[],0,0,0,d.code,0,(⟨0,[],[],[],[],0,0⟩:Mail),d.text⟩:DeedR):=by
      unfold G2_
      repeat (first|rw[if_pos (by omega)]|rw[if_neg (by omega)])
      rfl
    rw[e];rfl
  refine gm tv15 10 [] fun _=>?_;refine rt1 rfl rfl (ple ?_);have e:G2_ d=(⟨d.kind,d.tick,(⟨[],0,[]⟩:ShopR),(⟨[],0,0,[]⟩:QueueR),(⟨[],[],false,[],[],false⟩:BindR),[],0,0,0,0,0,(⟨0,[],[],[],[],0,0⟩:Mail),[]⟩:DeedR):=by
    unfold G2_
    repeat (first|rw[if_pos (by omega)]|rw[if_neg (by omega)])
    rfl
  rw[e];rfl
theorem Li_ (l:List Int):Fn Tryz.prog gb 108 [.sl i64c l] (.int .i64 (I7_ l)):=by
  refine fC Tryz.func108 tv15 Tryz.ntmps108 fun w N H hG=>?_;have l_l:l.length<=140737488355328:=w.1.1;refine gx tv15 14 ?_;refine loop (ι:=Nat) [0,5,6] [] (fun k=>[(7, .int .i64 (k:Int))]) (fun k=>[]) (fun k=>k<=l.length/\I7_ l=I7_ (l.drop k)) (fun k=>l.length-k) 0 ⟨rfl,trivial⟩ trivial ?_ ?_
  · exact⟨Nat.zero_le _,rfl⟩
  rintro k hp1;obtain⟨hk1,hk2⟩:=hp1;refine gx tv15 6 ?_;refine cn rfl (fun p3=>?_) fun p12=>?_
  · obtain⟨c4,hc5⟩:=getE (xs:=l) (m:=k) (by omega);refine gx tv15 6 ?_;refine q1 (qidx tv15 k rfl rfl rfl hc5 rfl rfl rfl rfl) rfl fun w6=>?_;refine gx tv15 10 ?_;refine cnd rfl (fun h7=>?_) (fun h7=>?_)
    · have h8:=Ds_ h7;have p9:=df h8;refine gx tv15 12 ?_;refine rt1 rfl rfl (ple ?_);refine congrArg (PV.int .i64) ?_
      rw[hk2,C4_ hc5]
      unfold I7_
      rw[if_pos (by assumption)]
    have h10:=D2_ h7;have p11:=dt h10;refine gy tv15 7 ?_;refine next (k+1) rfl rfl ⟨rfl,trivial⟩ trivial ?_ ?_
    · omega
    refine⟨by omega,?_⟩
    rw[hk2,C4_ hc5]
    conv=>lhs;unfold I7_
    rw[if_neg (by omega)]
  refine gx tv15 11 ?_;refine rt1 rfl rfl (ple ?_);refine congrArg (PV.int .i64) ?_
  rw[hk2,List.drop_of_length_le (by omega)]
  rfl
theorem T6_ (d:DeedR):Fn Tryz.prog gb 42 [.agg (DeedR.pc d)] (.int .i64 (Ga_ d)):=by
  refine fC Tryz.func42 tv15 Tryz.ntmps42 fun w N H hG=>?_;refine gm tv15 16 [0] fun B2=>?_;refine cn rfl (fun p4=>?_) fun p5=>?_
  · refine gx tv15 8 ?_;refine rt1 rfl rfl (ple ?_);refine congrArg (PV.int .i64) ?_
    unfold Ga_
    repeat (first|rw[if_pos (by omega)]|rw[if_neg (by omega)]|rw[if_pos (by assumption)]|rw[if_neg (not_not_intro (by assumption))])
    all_goals first|done|rfl
  refine gx tv15 1 ?_;refine aN [1,2,3,4,5,6] 6 mixd ?_;refine gX tv15 [0,1] 4 ?_;refine vE 2 rfl (eC (deed_told _) rfl fun w6=>?_);refine vC 3 rfl (deed_Same _ _) rfl fun w7=>?_;refine gX tv15 [4,5] 0 ?_;refine vD ?_;refine gx tv15 1 ?_;refine cnd rfl (fun h8=>?_) (fun h8=>?_)
  · have h9:=Ds_ h8;have p10:=df h9;refine gx tv15 8 ?_;refine rt1 rfl rfl (ple ?_);refine congrArg (PV.int .i64) ?_
    unfold Ga_
    repeat (first|rw[if_pos (by omega)]|rw[if_neg (by omega)]|rw[if_pos (by assumption)]|rw[if_neg (not_not_intro (by assumption))])
    all_goals first|done|rfl
  have h11:=D2_ h8;have p12:=dt h11;refine gx tv15 17 ?_;refine cn rfl (fun p14=>?_) fun p20=>?_
  · refine gx tv15 1 ?_;refine aN [1,2,3,4,5,6] 16 mixd ?_;refine gX tv15 [0,1,2] 13 ?_;refine vC 3 rfl (Dd_ _) rfl fun w15=>?_;refine gX tv15 [4,5,6,7] 8 ?_;refine vC 8 rfl (Lh_ _ _) rfl fun w16=>?_;refine gX tv15 [9,10,11] 4 ?_;refine vC 12 rfl (T7_ _) rfl fun w17=>?_;have :=O6_ d.shop.to';refine vE 13 rfl (bsl 1 i64c [Ee_ d.shop.name,Hq_ (decide (4<d.shop.sort)) 8,L8_ d.shop.to'] tv15 rfl rfl rfl rfl rfl (fun _=>rfl) rfl (by decide) (by decide) rfl fun u18=>?_);refine vE 14 rfl (calll 1 rfl (Li_ _) rfl rfl rfl fun w19=>?_);refine gX tv15 [15] 0 ?_;refine vD ?_;refine gx tv15 4 ?_;refine rt1 rfl rfl (ple ?_);refine congrArg (PV.int .i64) ?_
    unfold Ga_
    repeat (first|rw[if_pos (by omega)]|rw[if_neg (by omega)]|rw[if_pos (by assumption)]|rw[if_neg (not_not_intro (by assumption))])
    all_goals first|done|rfl
  refine gx tv15 6 ?_;refine cn rfl (fun p22=>?_) fun p27=>?_
  · refine gx tv15 1 ?_;refine aN [1,2,3,4,5,6] 11 mixd ?_;refine gX tv15 [0,1,2] 8 ?_;refine vC 3 rfl (Dd_ _) rfl fun w23=>?_;refine gX tv15 [4,5,6] 4 ?_;refine vC 7 rfl (T7_ _) rfl fun w24=>?_;have :=O6_ d.queue.dead;refine vE 8 rfl (bsl 1 i64c [Ee_ d.queue.name,L8_ d.queue.dead] tv15 rfl rfl rfl rfl rfl (fun _=>rfl) rfl (by decide) (by decide) rfl fun u25=>?_);refine vE 9 rfl (calll 1 rfl (Li_ _) rfl rfl rfl fun w26=>?_);refine gX tv15 [10] 0 ?_;refine vD ?_;refine gx tv15 4 ?_;refine rt1 rfl rfl (ple ?_);refine congrArg (PV.int .i64) ?_
    unfold Ga_
    repeat (first|rw[if_pos (by omega)]|rw[if_neg (by omega)]|rw[if_pos (by assumption)]|rw[if_neg (not_not_intro (by assumption))])
    all_goals first|done|rfl
  refine gx tv15 7 ?_;refine cnd rfl (fun h28=>?_) (fun h28=>?_)
  · have p29:=dt h28;refine gx tv15 2 ?_;refine cndT rfl h28 ?_;refine gm tv15 9 [1] fun B31=>?_;refine aN [2,3,4,5,6,7] 17 mixd ?_;refine gX tv15 [0,1] 15 ?_;refine vC 2 rfl (Dd_ _) rfl fun w32=>?_;refine gX tv15 [3,4] 12 ?_;refine vC 5 rfl (Dd_ _) rfl fun w33=>?_;refine gX tv15 [6,7,8,9] 7 ?_;refine vC 10 rfl (Lh_ _ _) rfl fun w34=>?_;refine gX tv15 [11,12] 4 ?_;refine vC 13 rfl (J4_ _) rfl fun w35=>?_;refine vE 14 rfl (bsl 2 i64c [Ee_ d.bind.shop,Ee_ d.bind.to',Hq_ (decide (64<(d.bind.key.length:Int))) 5,Fo_ d.bind.want] tv15 rfl rfl rfl rfl rfl (fun _=>rfl) rfl (by decide) (by decide) rfl fun u36=>?_);refine vE 15 rfl (calll 2 rfl (Li_ _) rfl rfl rfl fun w37=>?_);refine gX tv15 [16] 0 ?_;refine vD ?_;refine gx tv15 4 ?_;refine rt1 rfl rfl (ple ?_);refine congrArg (PV.int .i64) ?_
    unfold Ga_
    repeat (first|rw[if_pos (by omega)]|rw[if_neg (by omega)]|rw[if_pos (by assumption)]|rw[if_neg (not_not_intro (by assumption))])
    all_goals first|done|rfl
  have p38:=df h28;refine gx tv15 5 ?_;refine cn rfl (fun p40=>?_) fun p49=>?_
  · refine gm tv15 9 [1] fun B42=>?_;refine aN [2,3,4,5,6,7] 17 mixd ?_;refine gX tv15 [0,1] 15 ?_;refine vC 2 rfl (Dd_ _) rfl fun w43=>?_;refine gX tv15 [3,4] 12 ?_;refine vC 5 rfl (Dd_ _) rfl fun w44=>?_;refine gX tv15 [6,7,8,9] 7 ?_;refine vC 10 rfl (Lh_ _ _) rfl fun w45=>?_;refine gX tv15 [11,12] 4 ?_;refine vC 13 rfl (J4_ _) rfl fun w46=>?_;refine vE 14 rfl (bsl 2 i64c [Ee_ d.bind.shop,Ee_ d.bind.to',Hq_ (decide (64<(d.bind.key.length:Int))) 5,Fo_ d.bind.want] tv15 rfl rfl rfl rfl rfl (fun _=>rfl) rfl (by decide) (by decide) rfl fun u47=>?_);refine vE 15 rfl (calll 2 rfl (Li_ _) rfl rfl rfl fun w48=>?_);refine gX tv15 [16] 0 ?_;refine vD ?_;refine gx tv15 4 ?_;refine rt1 rfl rfl (ple ?_);refine congrArg (PV.int .i64) ?_
    unfold Ga_
    repeat (first|rw[if_pos (by omega)]|rw[if_neg (by omega)]|rw[if_pos (by assumption)]|rw[if_neg (not_not_intro (by assumption))])
    all_goals first|done|rfl
  refine gx tv15 7 ?_;refine cnd rfl (fun h50=>?_) (fun h50=>?_)
  · have p51:=dt h50;refine gx tv15 2 ?_;refine cndT rfl h50 ?_;refine gx tv15 4 ?_;refine call (J5_ _) rfl rfl fun w52=>?_;have :=Mq_ d.mail;have hmo52:=fun h=>G1_ (m:=d.mail) h;refine gx tv15 6 ?_;refine rt1 rfl rfl (ple ?_);refine congrArg (PV.int .i64) ?_
    unfold Ga_
    repeat (first|rw[if_pos (by omega)]|rw[if_neg (by omega)]|rw[if_pos (by assumption)]|rw[if_neg (not_not_intro (by assumption))])
    all_goals first|done|rfl
  have p53:=df h50;refine gx tv15 5 ?_;refine cn rfl (fun p55=>?_) fun p57=>?_
  · refine gx tv15 4 ?_;refine call (J5_ _) rfl rfl fun w56=>?_;have :=Mq_ d.mail;have hmo56:=fun h=>G1_ (m:=d.mail) h;refine gx tv15 6 ?_;refine rt1 rfl rfl (ple ?_);refine congrArg (PV.int .i64) ?_
    unfold Ga_
    repeat (first|rw[if_pos (by omega)]|rw[if_neg (by omega)]|rw[if_pos (by assumption)]|rw[if_neg (not_not_intro (by assumption))])
    all_goals first|done|rfl
  refine gx tv15 7 ?_;refine cnd rfl (fun h58=>?_) (fun h58=>?_)
  · have p59:=dt h58;refine gx tv15 2 ?_;refine cndT rfl h58 ?_;refine gx tv15 8 ?_;refine rt1 rfl rfl (ple ?_);refine congrArg (PV.int .i64) ?_
    unfold Ga_
    repeat (first|rw[if_pos (by omega)]|rw[if_neg (by omega)]|rw[if_pos (by assumption)]|rw[if_neg (not_not_intro (by assumption))])
    all_goals first|done|rfl
  have p60:=df h58;refine gx tv15 5 ?_;refine cn rfl (fun p62=>?_) fun p63=>?_
  · refine gx tv15 8 ?_;refine rt1 rfl rfl (ple ?_);refine congrArg (PV.int .i64) ?_
    unfold Ga_
    repeat (first|rw[if_pos (by omega)]|rw[if_neg (by omega)]|rw[if_pos (by assumption)]|rw[if_neg (not_not_intro (by assumption))])
    all_goals first|done|rfl
  refine gx tv15 6 ?_;refine cn rfl (fun p65=>?_) fun p67=>?_
  · refine gx tv15 6 ?_;refine call (Lh_ _ _) rfl rfl fun w66=>?_;refine gx tv15 6 ?_;refine rt1 rfl rfl (ple ?_);refine congrArg (PV.int .i64) ?_
    unfold Ga_
    repeat (first|rw[if_pos (by omega)]|rw[if_neg (by omega)]|rw[if_pos (by assumption)]|rw[if_neg (not_not_intro (by assumption))])
    all_goals first|done|rfl
  refine gx tv15 4 ?_;refine aN [1,2,3,4,5,6] 10 mixd ?_;refine gX tv15 [0,1] 8 ?_;refine vC 2 rfl (Dd_ _) rfl fun w68=>?_;refine gX tv15 [3,4,5] 4 ?_;refine vC 6 rfl (Lh_ _ _) rfl fun w69=>?_;refine vE 7 rfl (bsl 1 i64c [Ee_ d.name,Hq_ (decide (2<d.how)) 7] tv15 rfl rfl rfl rfl rfl (fun _=>rfl) rfl (by decide) (by decide) rfl fun u70=>?_);refine vE 8 rfl (calll 1 rfl (Li_ _) rfl rfl rfl fun w71=>?_);refine gX tv15 [9] 0 ?_;refine vD ?_;refine gx tv15 2 ?_;refine rt1 rfl rfl (ple ?_);refine congrArg (PV.int .i64) ?_
  unfold Ga_
  repeat (first|rw[if_pos (by omega)]|rw[if_neg (by omega)]|rw[if_pos (by assumption)]|rw[if_neg (not_not_intro (by assumption))])
  all_goals first|done|rfl
end Go.SW.V
