/-
  A part of the proof of VaultTogether.
-/
import Derived.Test.YthjabjnhbhmdfaaGreatDoorVaultTogetherP4
import Derived.Test.YthjabjnhbhmdfaaGreatDoorVaultTogetherP2
import Derived.Test.YthjabjnhbhmdfaaGreatDoorVaultTogetherP3
set_option linter.unusedVariables false
set_option linter.unusedSimpArgs false
set_option maxRecDepth 100000
set_option maxHeartbeats 4000000
open Bool renaming and_eq_true->A4,not_eq_false'->AX,not_false->AF,not_true->A5,or_eq_false_iff->AG
open Go.IntKind renaming wrap->A0
open List renaming append_assoc->AW,length->BA,length_append->A1,mem_cons_of_mem->AC,mem_cons_self->AJ,mem_of_getElem?->A2
open Nat renaming zero_le->AQ
namespace Go.SW.V
open Go.SW
def LgI(l:Dy_):Prop:=DkI l.d/\l.d.waits=[]/\l.ready=true/\l.broken=false/\(l.Bj_=0\/l.Bj_=1)/\l.done.length<=3776/\l.waits.length<=3776
def StI(p:F_)(r:Int)(s:D_):Prop:=StOk s/\StB s/\s.U_=p/\s.place=r/\KOk s.x.E_.bytes s.x.E_/\s.x.E_.bytes<=65536
def VI(p:F_)(r:Int)(v:Au_):Prop:=StI p r v.store/\LgI v.log
theorem append_i{l:Dy_}(h:LgI l)(rs:List Bs):LgI (A2_ l rs).2/\(A2_ l rs).2.gen=l.gen:=by
 obtain⟨h1,h2,h3,h4,h5,h6,h7⟩:=h;obtain⟨a1,a2,a3,a4,a5,a6,_,a8⟩:=append_f l rs;have hr:=row60 h1.2.2.2.1;refine⟨⟨by rw[a1];exact h1,by rw[a1];exact h2,by rw[a4];exact h3,by rw[a5];exact h4,by rw[a2];exact h5,by rw[a6];exact h6,by omega⟩,a3⟩
theorem begin_I{l:Dy_}(h:LgI l)(hg:0<=l.gen/\l.gen<1000)(image:Bs):LgI (Bb_ l image).2/\l.gen<=(Bb_ l image).2.gen/\(Bb_ l image).2.gen<=l.gen+1:=by
 obtain⟨h1,h2,h3,h4,h5,h6,h7⟩:=h
 rcases begin_i image h1 h4 hg with ⟨e,_⟩|⟨d',a,e,g1,g2,g3,g4⟩
 rw[e];exact⟨⟨h1,h2,h3,h4,h5,h6,h7⟩,by omega,by omega⟩;rw[e];exact⟨⟨g1,g2,rfl,rfl,g3,g4,by simp⟩,by simp only[];omega,by simp only[];omega⟩
theorem doI{p:F_}{r:Int}{s:D_}{d:G_}(h:StI p r s)(hd:DdG d):StI p r (K_ s d).1:=by
 obtain⟨h1,h2,h3,h4,h5,h6⟩:=h;obtain⟨d1,d2,d3,d4,d5,d6⟩:=hd;have :=doPl ⟨d2,d3⟩ h1 d4 h2;have hk:KOk s.x.E_.bytes (K_ s d).1.x.E_:=by
   have q:=do_h (d:=d) h1 d4 h5
   by_cases e:(K_ s d).2.2=0
   . rcases q.2 e with ⟨_,g⟩|⟨_,_,_,g⟩
     . exact g.k
     . exact g.k
   . rw[q.1 e];exact h5
 exact⟨Uq_ h1 d1 d4,doB ⟨d2,d3⟩ h1 d4 d5 d6 h2,by rw[this.1];exact h3,by rw[this.2];exact h4,by rw[hk.1];exact hk,by rw[hk.1];exact h6⟩
theorem all_l0_vi{p:F_}{r:Int}{v:Au_}(l:List G_)(h:VI p r v)(hg:0<=v.log.gen/\v.log.gen<1000):∀ (t:List G_) (k:Nat) (out:List Af_) (x:D_),(∀ d∈t,DdG d)->StI p r x->VI p r (Ab_ v l t k out x).2.2.2/\v.log.gen<=(Ab_ v l t k out x).2.2.2.log.gen/\(Ab_ v l t k out x).2.2.2.log.gen<=v.log.gen+1
 |[],k,out,x,_,hx=>by
   rw[Ab_.eq_1];unfold lt
   by_cases h1:(B9_ l).2=0
   . simp only[h1,decide_true,A5,cond_false]
     have ha:=append_i h.2 [(B9_ l).1]
     by_cases h2:(A2_ v.log [(B9_ l).1]).1=17
     . simp only[h2,decide_true,cond_true]
       have hb:=begin_I ha.1 (by rw[ha.2];exact hg) (Be_ (Aa_ x))
       rw[ha.2] at hb
       by_cases h3:(Bb_ (A2_ v.log [(B9_ l).1]).2 (Be_ (Aa_ x))).1=0
       . simp only[h3,decide_true,A5,cond_false];exact⟨⟨hx,hb.1⟩,hb.2.1,hb.2.2⟩
       . simp only[h3,decide_false,AF,cond_true];exact⟨⟨h.1,hb.1⟩,hb.2.1,hb.2.2⟩
     . by_cases h3:(A2_ v.log [(B9_ l).1]).1=0
       . simp only[h2,decide_false,cond_false];simp only[h3,decide_true,A5,cond_false];exact⟨⟨hx,ha.1⟩,by have :=ha.2;omega,by have :=ha.2;omega⟩
       . simp only[h2,h3,decide_false,AF,cond_false,cond_true];exact⟨⟨h.1,ha.1⟩,by have :=ha.2;omega,by have :=ha.2;omega⟩
   . exact sJ
 |d::t,k,out,x,hd,hx=>by
   rw[Ab_.eq_2];unfold lt
   by_cases h1:(K_ x d).2.2=0
   . simp only[h1,decide_true,A5,cond_false]
     exact all_l0_vi l h hg t (k+1) (out++[(K_ x d).2.1]) (K_ x d).1 (λy hy=>hd y (AC _ hy)) (doI hx (hd d (AJ ..)))
   . exact sJ
theorem all_vi{p:F_}{r:Int}{v:Au_}{l:List G_}(h:VI p r v)(hg:0<=v.log.gen/\v.log.gen<1000)(hd:∀ d∈l,DdG d):VI p r (A4_ v l).2.2.2/\v.log.gen<=(A4_ v l).2.2.2.log.gen/\(A4_ v l).2.2.2.log.gen<=v.log.gen+1:=by
 unfold A4_ lt
 cases Ep_ v.log with
 |false=>exact⟨h,by simp only[AF,cond_true];omega,by simp only[AF,cond_true];omega⟩
 |true=>
   simp only[A5,cond_false]
   by_cases h2:(255:Int)<(l.length:Int)
   . simp only[h2,decide_true,cond_true];exact⟨h,by omega,by omega⟩
   . simp only[h2,decide_false,cond_false];exact all_l0_vi l h hg l 0 [] v.store hd h.1
theorem do_vi{p:F_}{r:Int}{v:Au_}{d:G_}(h:VI p r v)(hg:0<=v.log.gen/\v.log.gen<1000)(hd:DdG d):VI p r (D0_ v d).2.2/\v.log.gen<=(D0_ v d).2.2.log.gen/\(D0_ v d).2.2.log.gen<=v.log.gen+1:=by
 have :=all_vi (l:=[d]) h hg (λy hy=>by rw[List.mem_singleton.1 hy];exact hd);have e:(D0_ v d).2.2=(A4_ v [d]).2.2.2:=by
   unfold D0_ lt
   by_cases q:(A4_ v [d]).2.2.1=0
   . simp only[q,decide_true,A5,cond_false]
   . simp only[q,decide_false,AF,cond_true]
 rw[e];exact this
def itemB(x:V_):Bs:=numB 1 (Gu_ x).toNat++Dj_ x.Ad_
def rowB(r:Hh_):Bs:=txtB r.q.name++(numB 8 r.q.most.toNat++(numB 8 r.q.life.toNat++(txtB r.q.dead++(numB 1 r.l.items.length++r.l.items.flatMap itemB))))
def upB(a:A16_RiseR):Nat->Bs
 |0=>[]
 |n+1=>(if 0<(A16.get a (15-n)).total then numB 1 (15-n)++Db_ (A16.get a (15-n)) else [])++upB a n
def upN(a:A16_RiseR):Nat->Nat
 |0=>0
 |n+1=>(if 0<(A16.get a (15-n)).total then 1 else 0)+upN a n
theorem all_id0:∀ (t out:List V_),Do_ t out=out++t
 |[],out=>by simp[Do_]
 |x::t,out=>by
   rw[Do_,lt,all_id0 t]
   simp[Cw_,lt,M_]
theorem all_id(l:As_):Fd_ l=l.items:=by
 unfold Fd_;rw[all_id0];rfl
theorem ke1:∀ (t:List V_) (o:Out),A6_ t o=⟨o.s++t.flatMap itemB,o.err⟩
 |[],o=>by simp[A6_]
 |y::t,o=>by
   rw[A6_,ke1 t,Hr_]
   simp[Y_,itemB]
theorem ke2(s:I_)(x:Out):∀ (n f:Nat) (many:Nat) (o:Out),n<=16->n<f->many+n<=16->C0_ s x f many (16-n) o=x.s++(numB 1 (many+upN s.rises n)++(o.s++upB s.rises n))
 |_,0,_,_,_,h,_=>by omega
 |0,f+1,many,o,_,_,_=>by
   rw[C0_]
   have e:decide (((16-0:Nat):Int)<16)=false:=by decide
   rw[e,cond_false,Hr_]
   simp[Y_,upN,upB]
 |n+1,f+1,many,o,h,hf,hm=>by
   rw[C0_]
   have e:decide (((16-(n+1):Nat):Int)<16)=true:=decide_eq_true rV
   have hv:16-(n+1)=15-n:=by omega
   have hv2:16-(n+1)+1=16-n:=by omega
   rw[e,cond_true,lt,hv2,hv]
   have ht:Ky_ (A16.get s.rises (15-n))=(A16.get s.rises (15-n)).total:=rfl
   rw[ht]
   by_cases q:0<(A16.get s.rises (15-n)).total
   . rw[decide_eq_true q,cond_true]
     have hw:A0 .u64 ((many:Int)+1)=((many+1:Nat):Int):=by rw[Cq_ rV rV];omega
     rw[hw,ke2 s x n f (many+1) _ rV rV rV,Hr_,upN,upB,if_pos q,if_pos q]
     simp only[Y_,AW,Int.toNat_natCast]
     rw[Nat.add_assoc]
   . rw[decide_eq_false q,cond_false,ke2 s x n f many _ rV rV rV,upN,upB,if_neg q,if_neg q]
     simp
theorem ke0(s:I_):∀ (t:List Hh_) (o:Out),(∀ r∈t,LnOk r.l/\Ef_ r.q=0)->Bi_ s t o=o.s++(t.flatMap rowB++(numB 1 (upN s.rises 16)++upB s.rises 16))
 |[],o,_=>by
   rw[Bi_]
   have :=ke2 s o 16 17 0 (⟨[],0⟩:Out) rV rV rV
   exact sT
 |r::t,o,h=>by
   obtain⟨hl,hq⟩:=h r qB
   obtain⟨q1,q2,_,_⟩:=Vf_ hq
   have h64:=hl.1
   have hw:A0 .u64 (Ft_ r.l)=(r.l.items.length:Int):=Cq_ (show (0:Int)<=(r.l.items.length:Int) by omega) (show (r.l.items.length:Int)<=_ by omega)
   rw[Bi_,lt1,lt,all_id,ke1,hw,Hr_,Bc_ (s:=r.q.dead) rV,L0_,L0_,Bc_ (s:=r.q.name) rV]
   rw[ke0 s t _ (λz hz=>h z pC)]
   simp[rowB,AW]
theorem ke{s:I_}(hs:StkOk s)(hq:RoB s):B4_ s=numB 8 s.next.toNat++(numB 1 s.rows.length++(s.rows.flatMap rowB++(numB 1 (upN s.rises 16)++upB s.rises 16))):=by
 unfold B4_;rw[ke0 s _ _ (λr hr=>⟨hs.1.2.1 r hr,hq r hr⟩),Hr_,L0_];simp
def DdsW(l:List G_):Prop:=∀ d∈l,DWf d
theorem ddw_nil:DdsW []:=λ_ h=>by cases h
theorem ddw_app{l:List G_}{d:G_}(h:DdsW l)(hd:DWf d):DdsW (l++[d]):=λy hy=>by
 rcases List.mem_append.1 hy with q|q
 . exact h y q
 . rw[List.mem_singleton.1 q];exact hd
theorem ddw_k{d:G_}(h:DWf d):0<=d.kind:=h.1.1.1
theorem ddw_g{d:G_}(h:DWf d)(he:G2_ d=0):DdG d/\0<=d.kind:=by
 have ok:=Sb_ (ddw_k h) he;obtain⟨k1,k2,k3,k4,k5,k6,k7,k8,k9,k10,k11,k12,k13,k14,k15,k16,k17,k18,k19⟩:=ok;obtain⟨hw,hp,_⟩:=h;obtain⟨w1,w2,w3,w4,w5,w6,w7,w8,w9,w10,w11,w12,w13⟩:=hw;simp only[W_.wf,O_.wf,Mail.wf] at w3 w5 w12;have a1:=(M8_ k11).1;have a2:=(M8_ k16).1;refine⟨⟨⟨by omega,by omega,by omega,by omega⟩,w10.1,w10.2,by omega,by omega,hp⟩,w1.1⟩
theorem pack_each:∀ (l:List G_) (o:Bs),(E7_ l o).2=0->∀ d∈l,G2_ d=0
 |[],_,_=>λ_ h=>by cases h
 |x::t,o,h=>by
   unfold E7_ at h
   by_cases e:G2_ x=0
   . simp only[e,decide_true,A5,cond_false] at h
     intro d hd
     rcases List.mem_cons.1 hd with rfl|q
     . exact e
     . exact pack_each t _ h d q
   . simp[e] at h
theorem pack_e{l:List G_}(h:(B9_ l).2=0):∀ d∈l,G2_ d=0:=by
 unfold B9_ at h;by_cases c:(255:Int)<(l.length:Int)
 . simp only[c,decide_true,cond_true] at h;cases h
 simp only[c,decide_false,cond_false] at h;exact pack_each l _ h
def G9_(text:Bs):Nat->List G_->Int->In->(List G_)×Int
 |0,_,_,_=>default
 | f2+1,l,n,x=>(bif ((decide (0<n))&&(decide (x.err=0))) then
 lt (Gf_ x) λr1=>
 G9_ text f2 (l++[r1.1]) (A0 .u64 (n-1)) r1.2
 else (bif (((!decide ((inEnd x)=0))||(!decide (((B9_ l).2)=0)))||(!decide (((B9_ l).1)=text))) then
 ([],4)
 else (l,0)))
def Go_(text:Bs):(List G_)×Int:=
 lt (R_ (⟨text,0⟩) 1) λr=>
 G9_ text ((r.1).toNat+1) [] r.1 r.2
theorem unp0(text:Bs):∀ (f:Nat) (l:List G_) (n:Int) (i:In),DdsW l->∀ d∈(G9_ text f l n i).1,DdG d/\0<=d.kind
 |0,_,_,_,_=>λ_ h=>by cases h
 |f+1,l,n,i,hl=>by
   rw[G9_]
   refine bt (P:=λr:List G_×Int=>∀ d∈r.1,DdG d/\0<=d.kind) (λ_=>?_) λ_=>bt (P:=λr:List G_×Int=>∀ d∈r.1,DdG d/\0<=d.kind) (λ_=>λ_ h=>by cases h) λc=>?_
   . unfold lt
     exact unp0 text f _ _ _ (ddw_app hl (readD_pw i))
   . simp only[AG,AX,decide_eq_true_eq] at c
     exact λd hd=>ddw_g (hl d hd) (pack_e c.1.2 d hd)
theorem unpack_g(text:Bs):∀ d∈(Go_ text).1,DdG d/\0<=d.kind:=by
 unfold Go_ lt;exact unp0 text _ _ _ _ ddw_nil
theorem unpack_at{text:Bs}{r:List G_×Int}(h:Go_ text=r){k:Nat}{d:G_}(hd:r.1[k]? = some d):DdG d/\0<=d.kind:=by
 subst h;exact unpack_g text d (A2 hd)
theorem pack_len{l:List G_}(h:(B9_ l).2=0):l.length<=255:=by
 unfold B9_ at h;by_cases c:(255:Int)<(l.length:Int)
 . simp only[c,decide_true,cond_true] at h;cases h
 omega
theorem unl0(text:Bs):∀ (f:Nat) (l:List G_) (n:Int) (i:In),(G9_ text f l n i).1.length<=255
 |0,_,_,_=>AQ _
 |f+1,l,n,i=>by
   rw[G9_]
   refine bt (P:=λr:List G_×Int=>r.1.length<=255) (λ_=>?_) λ_=>bt (P:=λr:List G_×Int=>r.1.length<=255) (λ_=>AQ _) λc=>?_
   . unfold lt
     exact unl0 text f _ _ _
   . simp only[AG,AX,decide_eq_true_eq] at c
     exact pack_len c.1.2
theorem unpack_l{text:Bs}{r:List G_×Int}(h:Go_ text=r):r.1.length<=255:=by
 subst h;unfold Go_ lt;exact unl0 text _ _ _ _
def SpB(a:A8_SpentR):Prop:=∀ i,i<8->0<=(A8.get a i).count/\(A8.get a i).count<=16
def RdS(r:Ac_×Int):Prop:=r.2=0->SpB r.1.spent
theorem irs3{text:Bs}{p:F_}{k:Int}{Er_:List G_}{q:I_×Int}:∀ (f:Nat) (e:Int) (v:Nat) (i:In) (x:Ac_),8-v<f->v<=8->(e=0->∀ j,j<v->0<=(A8.get x.spent j).count/\(A8.get x.spent j).count<=16)->RdS (G4_ text p k Er_ q f e v i x)
 |0,_,_,_,_,h,_,_=>by omega
 |f+1,e,v,i,x,h,hv,hx=>by
   rw[G4_]
   refine bt (P:=RdS) (λc=>?_) λc0=>bt (P:=RdS) (λ_ h=>by cases h) λc=>?_
   . simp only[decide_eq_true_eq] at c
     unfold lt
     have hn:=Ai_ (R_ i 8).2 1
     have hset:∀ y:Aj_,∀ j,j<8->A8.get (A8.set x.spent y v) j = if j=v then y else A8.get x.spent j:=λy j hj=>A8.get_set _ _ _ _ rV hj
     refine bt (P:=RdS) (λ_=>irs3 f _ _ _ _ rV rV λe0=>by cases e0) λc2=>irs3 f _ _ _ _ rV rV λe0 j hj=>?_
     have h1:=hset (⟨(R_ i 8).1,(R_ (R_ i 8).2 1).1⟩:Aj_) j rV
     by_cases ej:j=v
     . subst ej
       have h2:=of_decide_eq_false c2
       rw[hset _ j rV,if_pos rfl] at h2
       show 0<=(A8.get (A8.set x.spent _ j) j).count/\(A8.get (A8.set x.spent _ j) j).count<=16
       rw[h1,if_pos rfl]
       exact⟨hn.1,by show (R_ (R_ i 8).2 1).1<=16;have h3:¬(16:Int)<(R_ (R_ i 8).2 1).1:=h2;omega⟩
     . show 0<=(A8.get (A8.set x.spent _ v) j).count/\(A8.get (A8.set x.spent _ v) j).count<=16
       rw[h1,if_neg ej]
       exact hx e0 j rV
   . simp only[AG,AX,decide_eq_true_eq] at c
     have hv8:v=8:=by have :=of_decide_eq_false c0;omega
     unfold lt
     refine bt (P:=RdS) (λ_ h=>by cases h) λ_ _=>?_
     subst hv8
     exact hx c.2
theorem irs2{text:Bs}{p:F_}{k:Int}{Er_:List G_}{q:I_×Int}:∀ (f v:Nat) (i:In) (x:Ac_),16-v<f->RdS (G3_ text p k Er_ q f v i x)
 |0,_,_,_,h=>by omega
 |f+1,v,i,x,h=>by
   rw[G3_]
   refine bt (P:=RdS) (λc=>?_) λ_=>irs3 _ _ _ _ _ rV rV λ_ j hj=>by omega
   simp only[decide_eq_true_eq] at c
   exact irs2 f _ _ _ rV
theorem irs1{text:Bs}{p:F_}{k:Int}(f:Nat):∀ (n:Int) (i:In) (Er_:List G_),n.toNat<f->0<=n->n<=255->RdS (Hu_ text p k f n i Er_):=by
 induction f with
 |zero=>intro n i Er_ h _ _;omega
 |succ f ih=>
   intro n i Er_ h h0 h5
   rw[Hu_.eq_2]
   refine bt (P:=RdS) (λc=>?_) λ_=>?_
   . simp only[A4,decide_eq_true_eq] at c
     have a1:(A0 .u64 (n-1)).toNat<f:=by rw[Cq_ rV rV];omega
     have a2:0<=A0 .u64 (n-1):=by rw[Cq_ rV rV];omega
     have a3:A0 .u64 (n-1)<=255:=by rw[Cq_ rV rV];omega
     generalize A0 .u64 (n-1)=m at a1 a2 a3 ⊢
     rw[lt]
     generalize P_ i 16=r5
     rw[lt]
     generalize P_ r5.2 16=r6
     rw[lt]
     generalize R_ r6.2 1=r7
     rw[lt]
     generalize P_ r7.2 64=r8
     rw[lt]
     generalize Bx_ r8.2=r9
     rw[lt]
     generalize R_ r9.2 1=r10
     exact ih _ _ _ a1 a2 a3
   . rw[lt]
     generalize R_ i 4=r11
     rw[lt]
     generalize Fm_ r11.2 (A0 .i64 r11.1)=r12
     rw[lt]
     generalize H5_ r12.1 ((gt p.places k.toNat).bytes)=r13
     rw[lt]
     generalize Ec_ r12.2=r14
     exact irs2 (16-0+1) 0 _ _ rX
theorem irs0{text:Bs}{p:F_}{k:Int}(f:Nat):∀ (n:Int) (i:In) (Er_:List G_),n.toNat<f->0<=n->n<=255->RdS (Ht_ text p k f n i Er_):=by
 induction f with
 |zero=>intro n i Er_ h _ _;omega
 |succ f ih=>
   intro n i Er_ h h0 h5
   rw[Ht_.eq_2]
   refine bt (P:=RdS) (λc=>?_) λ_=>?_
   . simp only[A4,decide_eq_true_eq] at c
     have a1:(A0 .u64 (n-1)).toNat<f:=by rw[Cq_ rV rV];omega
     have a2:0<=A0 .u64 (n-1):=by rw[Cq_ rV rV];omega
     have a3:A0 .u64 (n-1)<=255:=by rw[Cq_ rV rV];omega
     generalize A0 .u64 (n-1)=m at a1 a2 a3 ⊢
     rw[lt]
     generalize P_ i 16=r1
     rw[lt]
     generalize R_ r1.2 1=r2
     rw[lt]
     generalize P_ r2.2 16=r3
     exact ih _ _ _ a1 a2 a3
   . have h1:=Ai_ i 1
     unfold lt
     dsimp only
     exact irs1 _ _ _ _ (by show (R_ i 1).1.toNat<(R_ i 1).1.toNat+1;omega) h1.1 (h1.2.2.2 rX)
theorem iread_sp(text:Bs)(p:F_)(k:Int):RdS (Hs_ text p k):=by
 unfold Hs_;have h1:=Ai_ (⟨text,0⟩:In) 1;exact irs0 _ _ _ _ (by show (R_ _ 1).1.toNat<(R_ _ 1).1.toNat+1;omega) h1.1 (h1.2.2.2 rX)
def Ws_:Bool:=
 lt (Bu_ (⟨4,1,[(⟨[108,111,119],(⟨0,0⟩:Cr_),500,1⟩:Av_)],[0],[]⟩:F_) 0) λr=>
 lt (Aa_ r) λr1=>
 lt (Be_ r1) λr2=>
 lt (Hs_ r2 (⟨4,1,[(⟨[108,111,119],(⟨0,0⟩:Cr_),500,1⟩:Av_)],[0],[]⟩:F_) 0) λr3=>
 ((((Wq_)&&(decide ((r2.length:Int)=225)))&&(decide (r3.2=0)))&&(decide ((L2_ r3.1.E_)=1)))
def Wr_:Bool:=
 (Ws_)
theorem Vt_{l:List G_}{k:Nat}{d:G_}(h:(PV.sl G_.pc l).wf)(hd:l[k]? = some d):0<=d.Bl_.sort:=by
 have :=(h.2 d (A2 hd)).2.2.2.1;exact this.1
theorem Vu_{l:List G_}{k:Nat}{d:G_}(h:(PV.sl G_.pc l).wf)(hd:l[k]? = some d):∀ p∈d.bind.want,p.wf:=λp hp=>by
 have :=(h.2 d (A2 hd)).2.2.2.2.2.2.2.2.2.2.2.2.2.1
 exact Pair.pwf (this.2 p hp)
theorem Ns_{l:List G_}{k:Nat}{d:G_}(h:(PV.sl G_.pc l).wf)(hd:l[k]? = some d):0<=d.code/\d.code<=255:=by
 have :=(h.2 d (A2 hd)).2.2.2.2.2.2.2.2.2.2.2.2.2.2.2.2.2.2.2.1;exact this
theorem Uh_:∀ (l:List Av_),Hv_ l=true->∀ y∈l,y.name.length<=40
 |[],_,y,h=>by cases h
 |x::t,h,y,hy=>by
   unfold Hv_ at h
   cases e:decide (40<(x.name.length:Int)) with
   |true=>rw[e] at h;cases h
   |false=>
     rw[e] at h
     rcases List.mem_cons.1 hy with q|q
     . rw[q];have :=of_decide_eq_false e;omega
     . exact Uh_ t h y q
theorem may_names{p:F_}(h:Np_ p=true):∀ y∈p.places,y.name.length<=300:=by
 unfold Np_ at h;rw[A4] at h;have h1:=h.1;unfold Mj_ at h1
 cases e:(decide (20<(p.places.length:Int)) || decide (40<(p.slots.length:Int)) || decide (10<(p.grants.length:Int))) with
 |true=>rw[e] at h1;cases h1
 |false=>
   rw[e] at h1
   intro y hy
   have :=Uh_ _ h1 y hy
   omega
theorem l05_may2{p:F_}(h:Np_ p=true):PoOk p/\0<p.places.length/\p.places.length<=16/\0<p.slots.length/\p.slots.length<=32/\p.grants.length<=8/\∀ y∈p.places,y.name.length<=300:=by
 obtain⟨a,b,c,d,e,f⟩:=l05_may h;exact⟨a,b,c,d,e,f,may_names h⟩
def zParts:Ac_:=(⟨(⟨[],[]⟩:Az_),(⟨0,0,[],(⟨(⟨0,[]⟩:Ag_),(⟨0,[]⟩:Ag_),(⟨0,[]⟩:Ag_),(⟨0,[]⟩:Ag_),(⟨0,[]⟩:Ag_),(⟨0,[]⟩:Ag_),(⟨0,[]⟩:Ag_),(⟨0,[]⟩:Ag_),(⟨0,[]⟩:Ag_),(⟨0,[]⟩:Ag_),(⟨0,[]⟩:Ag_),(⟨0,[]⟩:Ag_),(⟨0,[]⟩:Ag_),(⟨0,[]⟩:Ag_),(⟨0,[]⟩:Ag_),(⟨0,[]⟩:Ag_)⟩:A16_RiseR)⟩:I_),(⟨0,[]⟩:By_),(⟨0,0,0,0,0,0,0,0,0,0,0,0,0,0,0,0⟩:A16_u64),(⟨(⟨0,0⟩:Aj_),(⟨0,0⟩:Aj_),(⟨0,0⟩:Aj_),(⟨0,0⟩:Aj_),(⟨0,0⟩:Aj_),(⟨0,0⟩:Aj_),(⟨0,0⟩:Aj_),(⟨0,0⟩:Aj_)⟩:A8_SpentR)⟩:Ac_)
def RdA(text:Bs)(r:Ac_×Int):Prop:=r=(zParts,4)\/(r.2=0/\ImOk r.1/\Be_ r.1=text)
theorem ird3{text:Bs}{p:F_}{k:Int}(hp:PoOk p)(hk:0<=k/\k<p.places.length){Er_:List G_}{q:I_×Int}:∀ (f:Nat) (e:Int) (v:Nat) (i:In) (x:Ac_),8-v<f->DdsG i Er_->PkOk x->RdA text (G4_ text p k Er_ q f e v i x)
 |0,_,_,_,_,h,_,_=>by omega
 |f+1,e,v,i,x,h,hd,hx=>by
   rw[G4_]
   refine bt (P:=RdA text) (λc=>?_) λ_=>bt (P:=RdA text) (λ_=> .inl Z) λc=>?_
   . simp only[decide_eq_true_eq] at c
     unfold lt
     have h2:=Lw_ (Lw_ hd (n:=8) Z) (n:=1) Z
     exact bt (P:=RdA text) (λ_=>ird3 hp hk f _ _ _ _ rV h2 hx) λ_=>ird3 hp hk f _ _ _ _ rV h2 hx
   . simp only[AG,AX,decide_eq_true_eq] at c
     have hb:=book_ok (⟨(),Er_⟩:RdR) (Bu_ p k) (B1_ q.1) (Mq_ hp hk) (newB p k) (hd (inEnd_e c.1))
     unfold lt
     refine bt (P:=RdA text) (λ_=> .inl Z) λc2=> .inr ⟨rfl,imOk_of hb hx,?_⟩
     simp only[AG,AX,decide_eq_true_eq] at c2
     exact c2.2
theorem ird2{text:Bs}{p:F_}{k:Int}(hp:PoOk p)(hk:0<=k/\k<p.places.length){Er_:List G_}{q:I_×Int}:∀ (f v:Nat) (i:In) (x:Ac_),16-v<f->DdsG i Er_->PkOk x->RdA text (G3_ text p k Er_ q f v i x)
 |0,_,_,_,h,_,_=>by omega
 |f+1,v,i,x,h,hd,hx=>by
   rw[G3_]
   refine bt (P:=RdA text) (λc=>?_) λ_=>ird3 hp hk _ _ _ _ _ rV hd hx
   simp only[decide_eq_true_eq] at c
   exact ird2 hp hk f _ _ _ rV (Lw_ hd (n:=8) Z) hx
theorem ird1b{text:Bs}{p:F_}{k:Int}(hp:PoOk p)(hk:0<=k/\k<p.places.length){i:In}{Er_:List G_}(hd:DdsG i Er_){r11 r12 r14:_}{r13:I_×Int}(e1:R_ i 4=r11)(e2:Fm_ r11.2 (IntKind.wrap .i64 r11.1)=r12)(e3:H5_ r12.1 ((gt p.places k.toNat).bytes)=r13)(e4:Ec_ r12.2=r14)(x:Ac_)(hx1:x.E_=r13.1)(hx2:x.notes=r14.1)(f:Nat)(hf:16<f):RdA text (G3_ text p k Er_ r13 f 0 r14.2 x):=by
 have g:=kof_ok r12.1 ((gt p.places k.toNat).bytes) (T3_ hp hk);rw[e3,<- hx1] at g;have g2:=nread_ok r12.2;rw[e4,<- hx2] at g2;exact ird2 hp hk _ _ _ _ hf (dds_notes (dds_raw (Lw_ hd e1) e2) e4) ⟨g.1,g.2,g2.1,g2.2⟩
theorem ird1{text:Bs}{p:F_}{k:Int}(hp:PoOk p)(hk:0<=k/\k<p.places.length)(f:Nat):∀ (n:Int) (i:In) (Er_:List G_),n.toNat<f->0<=n->n<=255->DdsG i Er_->RdA text (Hu_ text p k f n i Er_):=by
 induction f with
 |zero=>intro n i Er_ h _ _ _;omega
 |succ f ih=>
   intro n i Er_ h h0 h5 hd
   rw[Hu_.eq_2]
   refine bt (P:=RdA text) (λc=>?_) λ_=>?_
   . simp only[A4,decide_eq_true_eq] at c
     have a1:(A0 .u64 (n-1)).toNat<f:=by rw[Cq_ rV rV];omega
     have a2:0<=A0 .u64 (n-1):=by rw[Cq_ rV rV];omega
     have a3:A0 .u64 (n-1)<=255:=by rw[Cq_ rV rV];omega
     generalize A0 .u64 (n-1)=m at a1 a2 a3 ⊢
     rw[lt]
     generalize e5:P_ i 16=r5
     rw[lt]
     generalize e6:P_ r5.2 16=r6
     rw[lt]
     generalize e7:R_ r6.2 1=r7
     rw[lt]
     generalize e8:P_ r7.2 64=r8
     rw[lt]
     generalize e9:Bx_ r8.2=r9
     rw[lt]
     generalize e10:R_ r9.2 1=r10
     exact ih _ _ _ a1 a2 a3 (dds_bind hd e5 e6 e7 e8 e9 e10)
   . rw[lt]
     generalize e1:R_ i 4=r11
     rw[lt]
     generalize e2:Fm_ r11.2 (A0 .i64 r11.1)=r12
     rw[lt]
     generalize e3:H5_ r12.1 ((gt p.places k.toNat).bytes)=r13
     rw[lt]
     generalize e4:Ec_ r12.2=r14
     exact ird1b hp hk hd e1 e2 e3 e4 _ Z Z _ rX
theorem ird0{text:Bs}{p:F_}{k:Int}(hp:PoOk p)(hk:0<=k/\k<p.places.length)(f:Nat):∀ (n:Int) (i:In) (Er_:List G_),n.toNat<f->0<=n->n<=255->DdsG i Er_->RdA text (Ht_ text p k f n i Er_):=by
 induction f with
 |zero=>intro n i Er_ h _ _ _;omega
 |succ f ih=>
   intro n i Er_ h h0 h5 hd
   rw[Ht_]
   refine bt (P:=RdA text) (λc=>?_) λ_=>?_
   . simp only[A4,decide_eq_true_eq] at c
     have a1:(A0 .u64 (n-1)).toNat<f:=by rw[Cq_ rV rV];omega
     have a2:0<=A0 .u64 (n-1):=by rw[Cq_ rV rV];omega
     have a3:A0 .u64 (n-1)<=255:=by rw[Cq_ rV rV];omega
     generalize A0 .u64 (n-1)=m at a1 a2 a3 ⊢
     unfold lt
     dsimp only
     generalize e1:P_ i 16=r1
     generalize e2:R_ r1.2 1=r2
     generalize e3:P_ r2.2 16=r3
     have h2:=dds_shop hd e1 e2 e3
     exact ih _ _ _ a1 a2 a3 h2
   . unfold lt
     dsimp only
     have h1:=Ai_ i 1
     have h2:=Lw_ hd (n:=1) (r:=R_ i 1) Z
     generalize R_ i 1=r at h1 h2 ⊢
     exact ird1 hp hk _ _ _ _ rV h1.1 (h1.2.2.2 rX) h2
theorem iread_or(text:Bs){p:F_}{k:Int}(hp:PoOk p)(hk:0<=k/\k<p.places.length):RdA text (Hs_ text p k):=by
 unfold Hs_ lt;have h1:=Ai_ (⟨text,0⟩:In) 1;exact ird0 hp hk _ _ _ _ rV h1.1 (h1.2.2.2 rX) (dds_nil _)
theorem rep_with{text:Bs}{p:F_}{k:Int}{r:Ac_×Int}{s:D_}(hp:PoOk p)(hk:0<=k/\k<p.places.length)(h:r=Hs_ text p k)(h0:r.2=0)(hs:s=E4_ p k r.1):StOk s/\StB s:=by
 have h1:=iread_or text hp hk;have h2:=iread_sp text p k;rw[<- h] at h1 h2
 rcases h1 with h1|⟨_,h1,_⟩
 . rw[h1] at h0;cases h0
 obtain⟨a1,a2,a3,a4,a5,a6⟩:=h1;subst hs;exact⟨⟨⟨a1,a3,a5,h2 h0⟩,hp,hk⟩,a2,a4,a6⟩
def De_:List G_->D_->Lo D_ (D_×Int)
 |[],x2=> .fin x2
 |x3::t,x2=>lt (K_ x2 x3) λr3=>
 (bif !decide (r3.2.2=0) then
 .ret ((⟨(⟨(⟨[],[]⟩:Az_),(⟨0,0,[],(⟨(⟨0,[]⟩:Ag_),(⟨0,[]⟩:Ag_),(⟨0,[]⟩:Ag_),(⟨0,[]⟩:Ag_),(⟨0,[]⟩:Ag_),(⟨0,[]⟩:Ag_),(⟨0,[]⟩:Ag_),(⟨0,[]⟩:Ag_),(⟨0,[]⟩:Ag_),(⟨0,[]⟩:Ag_),(⟨0,[]⟩:Ag_),(⟨0,[]⟩:Ag_),(⟨0,[]⟩:Ag_),(⟨0,[]⟩:Ag_),(⟨0,[]⟩:Ag_),(⟨0,[]⟩:Ag_)⟩:A16_RiseR)⟩:I_),(⟨0,[]⟩:By_),(⟨0,0,0,0,0,0,0,0,0,0,0,0,0,0,0,0⟩:A16_u64),(⟨(⟨0,0⟩:Aj_),(⟨0,0⟩:Aj_),(⟨0,0⟩:Aj_),(⟨0,0⟩:Aj_),(⟨0,0⟩:Aj_),(⟨0,0⟩:Aj_),(⟨0,0⟩:Aj_),(⟨0,0⟩:Aj_)⟩:A8_SpentR)⟩:Ac_),(⟨0,0,[],[],[]⟩:F_),0⟩:D_),4)
 else De_ t r3.1)
def Ew_(r:Ac_×Int):List Bs->D_->D_×Int
 |[],x=>(x,0)
 | x4::t1,x=>(lp1 (lt (Go_ x4) λr2=>
 (bif !decide (r2.2=0) then
 .ret ((⟨(⟨(⟨[],[]⟩:Az_),(⟨0,0,[],(⟨(⟨0,[]⟩:Ag_),(⟨0,[]⟩:Ag_),(⟨0,[]⟩:Ag_),(⟨0,[]⟩:Ag_),(⟨0,[]⟩:Ag_),(⟨0,[]⟩:Ag_),(⟨0,[]⟩:Ag_),(⟨0,[]⟩:Ag_),(⟨0,[]⟩:Ag_),(⟨0,[]⟩:Ag_),(⟨0,[]⟩:Ag_),(⟨0,[]⟩:Ag_),(⟨0,[]⟩:Ag_),(⟨0,[]⟩:Ag_),(⟨0,[]⟩:Ag_),(⟨0,[]⟩:Ag_)⟩:A16_RiseR)⟩:I_),(⟨0,[]⟩:By_),(⟨0,0,0,0,0,0,0,0,0,0,0,0,0,0,0,0⟩:A16_u64),(⟨(⟨0,0⟩:Aj_),(⟨0,0⟩:Aj_),(⟨0,0⟩:Aj_),(⟨0,0⟩:Aj_),(⟨0,0⟩:Aj_),(⟨0,0⟩:Aj_),(⟨0,0⟩:Aj_),(⟨0,0⟩:Aj_)⟩:A8_SpentR)⟩:Ac_),(⟨0,0,[],[],[]⟩:F_),0⟩:D_),4)
 else De_ r2.1 x)) (λx1=>
 Ew_ r t1 x1) (λr=>r))
def Jf_(p:F_)(place:Int)(text:Bs)(records:List Bs):D_×Int:=
 lt (Hs_ text p place) λr=>
 (bif !decide (r.2=0) then
 ((⟨(⟨(⟨[],[]⟩:Az_),(⟨0,0,[],(⟨(⟨0,[]⟩:Ag_),(⟨0,[]⟩:Ag_),(⟨0,[]⟩:Ag_),(⟨0,[]⟩:Ag_),(⟨0,[]⟩:Ag_),(⟨0,[]⟩:Ag_),(⟨0,[]⟩:Ag_),(⟨0,[]⟩:Ag_),(⟨0,[]⟩:Ag_),(⟨0,[]⟩:Ag_),(⟨0,[]⟩:Ag_),(⟨0,[]⟩:Ag_),(⟨0,[]⟩:Ag_),(⟨0,[]⟩:Ag_),(⟨0,[]⟩:Ag_),(⟨0,[]⟩:Ag_)⟩:A16_RiseR)⟩:I_),(⟨0,[]⟩:By_),(⟨0,0,0,0,0,0,0,0,0,0,0,0,0,0,0,0⟩:A16_u64),(⟨(⟨0,0⟩:Aj_),(⟨0,0⟩:Aj_),(⟨0,0⟩:Aj_),(⟨0,0⟩:Aj_),(⟨0,0⟩:Aj_),(⟨0,0⟩:Aj_),(⟨0,0⟩:Aj_),(⟨0,0⟩:Aj_)⟩:A8_SpentR)⟩:Ac_),(⟨0,0,[],[],[]⟩:F_),0⟩:D_),4)
 else lt (E4_ p place r.1) λr1=>
 Ew_ r records r1)
theorem lit_g{k t:Int}:DdG (⟨k,t,(⟨[],0,[]⟩:W_),(⟨[],0,0,[]⟩:T_),(⟨[],[],false,[],[],false⟩:O_),[],0,0,0,0,0,(⟨0,[],[],[],[],0,0⟩:Mail),[]⟩:G_):=
 ⟨⟨by simp,by simp,by simp,by simp⟩,by simp,by simp,by simp,by simp,λ_ h=>by cases h⟩
theorem rep1:∀ (l:List G_) (s:D_),(∀ d∈l,DdG d/\0<=d.kind)->StOk s->StB s->∀ y,De_ l s = .fin y->StOk y/\StB y
 |[],s,_,h1,h2,y,h=>by rw[De_.eq_1] at h;cases h;exact⟨h1,h2⟩
 |d::t,s,hd,h1,h2,y,h=>by
   rw[De_.eq_2] at h
   unfold lt at h
   obtain⟨⟨g1,g2,g3,g4,g5,g6⟩,_⟩:=hd d (AJ ..)
   by_cases e:(K_ s d).2.2=0
   . simp only[e,decide_true,A5,cond_false] at h
     exact rep1 t _ (λz hz=>hd z (AC _ hz)) (Uq_ h1 g1 g4) (doB ⟨g2,g3⟩ h1 g4 g5 g6 h2) y h
   . simp only[e,decide_false,AF,cond_true] at h;cases h
theorem rep1r:∀ (l:List G_) (s:D_) (y:D_×Int),De_ l s = .ret y->y.2=4
 |[],s,y,h=>by rw[De_.eq_1] at h;cases h
 |d::t,s,y,h=>by
   rw[De_.eq_2] at h
   unfold lt at h
   by_cases e:(K_ s d).2.2=0
   . simp only[e,decide_true,A5,cond_false] at h
     exact rep1r t _ y h
   . simp only[e,decide_false,AF,cond_true] at h;cases h;rfl
theorem rep0(r:Ac_×Int):∀ (l:List Bs) (s:D_),StOk s->StB s->(Ew_ r l s).2=0->StOk (Ew_ r l s).1/\StB (Ew_ r l s).1
 |[],s,h1,h2,_=>⟨h1,h2⟩
 |x::t,s,h1,h2,h=>by
   rw[Ew_.eq_2] at h ⊢
   rw[lt] at h ⊢
   by_cases e:(Go_ x).2=0
   . simp only[e,decide_true,A5,cond_false] at h ⊢
     cases c:De_ (Go_ x).1 s with
     |fin y=>
       rw[c] at h
       obtain⟨k1,k2⟩:=rep1 _ s (unpack_g x) h1 h2 y c
       exact rep0 r t y k1 k2 h
     |ret y=>
       rw[c] at h
       have :=rep1r _ s y c
       have h':y.2=0:=h
       rw[this] at h';exact absurd h' rX
   . simp only[e,decide_false,AF,cond_true] at h
     have h':(4:Int)=0:=h
     exact absurd h' rX
theorem rep_ok2{p:F_}{k:Int}{text:Bs}{l:List Bs}{r:D_×Int}(hp:PoOk p)(hk:0<=k/\k<p.places.length)(h:r=Jf_ p k text l)(h0:r.2=0):StOk r.1/\StB r.1:=by
 subst h;unfold Jf_ lt at h0 ⊢;by_cases e:(Hs_ text p k).2=0;simp only[e,decide_true,A5,cond_false] at h0 ⊢;obtain⟨a,b⟩:=rep_with hp hk Z e Z;exact rep0 _ l _ a b h0;simp only[e,decide_false,AF,cond_true] at h0;have h':(4:Int)=0:=h0;exact absurd h' rX
def Dx_(p:F_)(place:Int)(d:Bw_)(tick:Int):Bool×Int×Bw_×Au_:=
 lt (H6_ d) λr=>
 (bif r.1 then
 lt (Bu_ p place) λr1=>
 (bif !decide (r.2.1=[]) then
 lt (Jf_ p place r.2.1 r.2.2.1) λr2=>
 (bif !decide (r2.2=0) then
 (false,r2.2,r.2.2.2.2.1,(default:Au_))
 else lt (K_ r2.1 (⟨11,tick,(⟨[],0,[]⟩:W_),(⟨[],0,0,[]⟩:T_),(⟨[],[],false,[],[],false⟩:O_),[],0,0,0,0,0,(⟨0,[],[],[],[],0,0⟩:Mail),[]⟩:G_)) λr3=>
 lt (Aa_ r3.1) λr4=>
 lt (Be_ r4) λr5=>
 lt (Bb_ (⟨r.2.2.2.2.1,r.2.2.2.2.2.Bj_,r.2.2.2.2.2.gen,r.2.2.2.2.2.ready,r.2.2.2.2.2.broken,r.2.2.2.2.2.done,r.2.2.2.2.2.waits⟩:Dy_) r5) λr6=>
 (bif !decide (r6.1=0) then
 (false,r6.1,r6.2.d,(default:Au_))
 else (true,0,r6.2.d,(⟨r3.1,r6.2⟩:Au_))))
 else lt (Aa_ r1) λr7=>
 lt (Be_ r7) λr8=>
 lt (Bb_ (⟨r.2.2.2.2.1,r.2.2.2.2.2.Bj_,r.2.2.2.2.2.gen,r.2.2.2.2.2.ready,r.2.2.2.2.2.broken,r.2.2.2.2.2.done,r.2.2.2.2.2.waits⟩:Dy_) r8) λr9=>
 (bif !decide (r9.1=0) then
 (false,r9.1,r9.2.d,(default:Au_))
 else (true,0,r9.2.d,(⟨r1,r9.2⟩:Au_))))
 else (false,r.2.2.2.1,r.2.2.2.2.1,(default:Au_)))
theorem seg1{x:Bs}(h0:x≠[])(h:x.length<=131072):Bd_ [x]=(P1_ x,0):=by
 have h1:¬(131072:Int)<(x.length:Int):=by omega
 simp only[Bd_,Gl_,h0,h1,decide_false,cond_false,lt,List.nil_append]
theorem dkI_new:DkI (Da_ 120):=by
 have e:(Da_ 120).lasts.length=7680:=by unfold Da_;simp only[List.length_replicate];omega
 exact⟨rfl,rfl,Int.le_refl 0,e,λy hy=>by cases hy⟩
theorem kok_new(b c:Int):KOk (Dw_ b c).bytes (Dw_ b c):=by
 have e:uz (Dw_ b c).rises 16=0:=by simp[uz,Dw_,A16.get,B8_,A7_]
 have e2:rz (Dw_ b c).rows=0:=rfl;have e3:(Dw_ b c).bytes=max 0 c:=rfl;refine⟨rfl,?_⟩;rw[e,e2,e3];omega
theorem stI_new{p:F_}{r:Int}(hp:PoOk p)(hk:0<=r/\r<p.places.length):StI p r (Bu_ p r):=⟨Mq_ hp hk,newB p r,rfl,rfl,kok_new _ _,by
 have hb:=(hp.2.2.2.2.2.2 _ (Mp_ (xs:=p.places) (k:=r.toNat) rV)).2
 show max 0 (gt p.places r.toNat).bytes<=65536
 omega⟩
theorem img_zero{x:Ac_}(hi:ImOk x)(hb:x.book=(⟨[],[]⟩:Az_))(hn:x.notes=(⟨0,[]⟩:By_))(hr:x.E_.rows=[])(hu:upB x.E_.rises 16=[]):(Be_ x).length<=1000:=by
 obtain⟨z,hz,e⟩:=ib_eq hi;have hk:=ke hi.2.2.1 hi.2.2.2.1;rw[hr,hu] at hk;have l0:=congrArg BA hk;simp only[A1,Z_,List.flatMap_nil,List.length_nil] at l0;have l1:(bookB (⟨[],[]⟩:Az_)).length=2:=by simp[bookB,Z_]
 have l2:(Y3_ (⟨0,[]⟩:By_)).length=9:=by simp[Y3_,Z_]
 have l3:=congrArg BA e;rw[hb,hn] at l3;simp only[A1,Z_,hz,l1,l2] at l3;omega
theorem rises_new(b c:Int):upB (Dw_ b c).rises 16=[]:=by
 simp[upB,Dw_,A16.get]
theorem img_new{p:F_}{r:Int}(hp:PoOk p)(hk:0<=r/\r<p.places.length):(Be_ (Aa_ (Bu_ p r))).length<=1000:=
 img_zero (im_st (Mq_ hp hk) (newB p r)) Z Z Z (rises_new _ _)
theorem vopen_gen{d:Bw_}{p:F_}{r tick:Int}(hw:H6_ d=(true,[],[],0,d,(⟨d,-1,0,false,false,[],[]⟩:Dy_)))(hd:DkI d){s:D_}{im:Bs}(hn:Bu_ p r=s)(hs:StI p r s)(him:Be_ (Aa_ s)=im)(hl:im.length<=1000)(hi:0<im.length):∃ v,Dx_ p r d tick=(true,0,v.log.d,v)/\VI p r v/\v.log.gen=1/\v.store=s:=by
 have h1:=seg1 (x:=im) (by intro e;rw[e] at hi;simp at hi) rV;have h2:=T5_ im;have e0:Dx_ p r d tick=(bif !decide ((Bb_ (⟨d,-1,0,false,false,[],[]⟩:Dy_) im).1=0) then (false,(Bb_ (⟨d,-1,0,false,false,[],[]⟩:Dy_) im).1,(Bb_ (⟨d,-1,0,false,false,[],[]⟩:Dy_) im).2.d,(default:Au_)) else (true,0,(Bb_ (⟨d,-1,0,false,false,[],[]⟩:Dy_) im).2.d,(⟨s,(Bb_ (⟨d,-1,0,false,false,[],[]⟩:Dy_) im).2⟩:Au_))):=by
   unfold Dx_ lt
   rw[hw,hn]
   simp only[him,cond_true,decide_true,A5,cond_false]
 rcases begin_i (l:=(⟨d,-1,0,false,false,[],[]⟩:Dy_)) im hd rfl ⟨by simp,by simp⟩ with ⟨_,e⟩|⟨d',a,e,g1,g2,g3,g4⟩
 . rw[h1] at e
   rcases e with ⟨_,e⟩|⟨e,_⟩
   simp only at e;omega
   exact (e Z).elim
 rw[e] at e0;simp only[decide_true,A5,cond_false] at e0;exact⟨⟨s,⟨d',a,0+1,true,false,(Bd_ [im]).1,[]⟩⟩,e0,⟨hs,g1,g2,rfl,rfl,g3,g4,by simp⟩,by simp,rfl⟩
theorem vopen_new{p:F_}{r tick:Int}(hp:PoOk p)(hk:0<=r/\r<p.places.length):∃ v,Dx_ p r (Da_ 120) tick=(true,0,v.log.d,v)/\VI p r v/\v.log.gen=1/\v.store=Bu_ p r:=
 vopen_gen (wopen_new' 120 rX rX) dkI_new Z (stI_new hp hk) Z (img_new hp hk) (im_pos (im_st (Mq_ hp hk) (newB p r)))
theorem deed_gk{l:List G_}{k:Nat}{d:G_}(h:(PV.sl G_.pc l).wf)(ha:DdA l)(hd:l[k]? = some d):DdG d/\0<=d.kind:=
 ⟨⟨dd_mem ha hd,(Ns_ h hd).1,(Ns_ h hd).2,Vs_ h hd,Vt_ h hd,Vu_ h hd⟩,(h.2 d (A2 hd)).1.1⟩
theorem deeds_gk{l:List G_}(h:(PV.sl G_.pc l).wf)(ha:DdA l):∀ d∈l,DdG d/\0<=d.kind:=λd hd=>by
 obtain⟨k,hk⟩:=List.getElem?_of_mem hd
 exact deed_gk h ha hk
theorem vi_pre{p:F_}{r:Int}{v:Au_}(h:VI p r v):DwOk v.log.d/\(v.log.d.waits.length<=50000/\0<=v.log.d.El_/\v.log.d.lasts.length<=100000/\v.log.done.length<=400000/\v.log.waits.length<=400000/\(-1<=v.log.Bj_/\v.log.Bj_<=1))/\(v.log.ready=true->0<=v.log.Bj_)/\StOk v.store/\StB v.store:=by
 obtain⟨⟨h1,h2,_⟩,⟨_,_,a1,a2,a3⟩,b1,b2,b3,b4,b5,b6⟩:=h;exact⟨a3,⟨by rw[b1];simp,a1,by omega,by omega,by omega,by omega,by omega⟩,λ_=>by omega,h1,h2⟩
theorem dk_pre{d:Bw_}(h:Da_ 120=d):DwOk d/\(d.lasts.length<=100000/\d.waits.length<=50000/\0<=d.El_)/\(H6_ d).2.1=[]:=by
 subst h;obtain⟨_,_,a1,a2,a3⟩:=dkI_new;exact⟨a3,⟨by omega,by show ([]:List _).length<=50000;simp,a1⟩,wopen_new 120⟩
theorem vo_pre{p:F_}{r:Int}{d:Bw_}{x:Bool×Int×Bw_×Au_}(hp:PoOk p)(hk:0<=r/\r<p.places.length)(hd:Da_ 120=d)(h:Dx_ p r d 0=x):x.1=true/\x.2.1=0/\VI p r (⟨x.2.2.2.store,(⟨x.2.2.1,x.2.2.2.log.Bj_,x.2.2.2.log.gen,x.2.2.2.log.ready,x.2.2.2.log.broken,x.2.2.2.log.done,x.2.2.2.log.waits⟩:Dy_)⟩:Au_)/\x.2.2.2.log.gen=1:=by
 obtain⟨v,e,hv,hg,_⟩:=vopen_new (p:=p) (r:=r) (tick:=0) hp hk;rw[hd,h] at e;rw[e];exact⟨rfl,rfl,hv,hg⟩
theorem with_st{p:F_}{r:Int}{v:Au_}{y:Ac_}{s:D_}(h:VI p r v)(hy:Ay_ v=y)(hs:s=E4_ p r y):StOk s/\StB s:=by
 have e:s=v.store:=by
   obtain⟨⟨_,_,h3,h4,_⟩,_⟩:=h
   rw[hs,<- hy,<- h3,<- h4];rfl
 obtain⟨⟨h1,h2,_⟩,_⟩:=h;rw[e];exact⟨h1,h2⟩
end Go.SW.V
namespace Go.SW
variable{P:Program}{n:Nat}{N:Rest}{H0:Env}{all rest:List Oper}{Q:Qs}{ks:List Kt}{T ty d:Nat}{pos:String}{af:Array Edge}{x:Operand}{K:St->Prop}
theorem sel_pick(L:Ls)(js:List Nat):selL L js (N6_ L js)=L:=funext λq=>by
 unfold selL
 cases h:posL js q with
 |none=>rfl
 |some a=>show N6_ L js a=L q;unfold N6_;rw[S7_ h]
theorem gcallg{ι:Type}{f:FuncId}{args args':List PV}{as0:Array Operand}{ats:Array TypeId}{pre:List Blk}{Φ:ι->Prop}{res:ι->PV}{A:ι}{s:St}{j:Nat}{want g:Bool}(js:List Nat)(hg:gOp s all j want=some g)(h:g=true->Fg P H0.g f args pre Φ res (λ_=>pre))(hr:∀ i,Φ i->A=i)
   (ha:argsP (strG (Kc_ as0.toList) s.F) x as0.toList=some (f,args')) (hc:AllP (Pe_ s.F g (Kc_ as0.toList) [])) (hno:L3_ s.F (Kc_ as0.toList)=true) (he:args'=args.map (renP js)) (hj:Q5_ js=true) (hl:js.length=pre.length) (hL:BLe (js.map s.L) (pre.map (renB js))) (hi:inBs js.length pre=true) (hia:inPs js.length args=true) (hd:Nat.blt d n=true) (hn2:(renR js (res A)).noOsl=true)
   (kk:K ⟨updp (Xk_ js s.F) d (.gv g (renR js (res A))),newL js pre s.L⟩):E2 P n N H0 all ⟨some d, .call ⟨.value x,as0,ats⟩,ty,pos,af,some (j,want)⟩ js s K:=by
 intro F H L hab;obtain⟨c,b,hy,hge⟩:=Q3_ hab hg;have hn:=S1_ hj;have hs:=ble_at hL;have hpre:∀ (a:Nat) B,pre[a]? = some B->SimB (lofB pre) H B (N6_ L js a):=λa B hB=>by
   have ha':a<js.length:=by rw[hl];exact (List.getElem?_eq_some_iff.1 hB).1
   have e1:js[a]? = some js[a]:=List.getElem?_eq_getElem ha'
   have e2:lofB pre a=B:=by unfold lofB;rw[Gm_,hB]
   have h5:=hab.l js[a]
   have h6:=hs a js[a] (by rw[Gm_];exact e1)
   rw[e2] at h6
   have h7:N6_ L js a=L js[a]:=by unfold N6_;rw[e1]
   rw[h7]
   rcases h6 with h6|h6
   . subst h6;trivial
   . refine Xm_ hs (U5_ hi hB) ?_
     grind
 refine op1_gd3 hy hd (λe=>?_) (λe=>?_);have hgt:=hge.trans e;have hF:=h hgt;obtain⟨us,h1,h2⟩:=I6_ (ats:=ats) (Ox_ hab.f (λt ht c v e=>(Kl_ hc).2 t ht c v e hgt) (Js_ hno)) ha hF.cb;subst he;have h3:Sims H args us:=⟨by simpa using h1.1,λi p v hp hv=>Vg_ (λl b o q=>V6_ (Sk_ hia hp) l (.inl ⟨b,o,q⟩)) (h1.2 i (renP js p) v pU hv)⟩;intro a w hA hm;rw[if_pos qD];unfold Oper.wp;rw[hA.eval,h2];refine (hF.run N H L w js us hab.g h3 hn hl hpre hm).mono λe' w' ⟨i,H',M,v,he',hi',hv,hM,hl',hm'⟩=>?_;subst he';obtain rfl :=hr i hi';have g1:=(hab.mono hl').turnJ (M:=M) hn hl hM;refine⟨_,H',_,hA.put qF v,hm',hl',λq hq=>?_,_,Abs.put (p:= .gv g (renR js (res A))) g1 d ?_,kk⟩;show selL L js M q=L q;unfold selL;rw[Vc_ hq];rw[hgt];exact Sim.gvt (renR_sim hv);have hgf:=hge.trans e;have g1:=hab.turnJ (M:=N6_ L js) hn hl hpre;rw[sel_pick] at g1;refine⟨.refl H,λ_ _=>rfl,_,Abs.put (p:= .gv g (renR js (res A))) g1 d ?_,kk⟩;rw[hgf];exact Sim.gvf
end Go.SW
namespace Go.SW.V
open Go.SW
variable{P:Program}{n:Nat}{N:Rest}{H0:Env}{all rest:List Oper}{Q:Qs}{ks:List Kt}{fF:Nat->PV}{fL:Nat->Blk}{T ty d:Nat}{pos:String}{af:Array Edge}{x:Operand}{K:St->Prop}
theorem gcallg{ι:Type}{f:FuncId}{args args':List PV}{as0:Array Operand}{ats:Array TypeId}{pre:List Blk}{Φ:ι->Prop}{res:ι->PV}{A:ι}{j:Nat}{want g:Bool}(js:List Nat)(hg:gOp ⟨fF,fL⟩ all j want=some g)(h:g=true->Fg P H0.g f args pre Φ res (λ_=>pre))(hr:∀ i,Φ i->A=i)
   (ha:argsP (strG (Kc_ as0.toList) fF) x as0.toList=some (f,args')) (hc:AllP (Pe_ fF g (Kc_ as0.toList) [])) (hno:L3_ fF (Kc_ as0.toList)=true) (he:args'=args.map (renP js)) (hj:Q5_ js=true) (hl:js.length=pre.length) (hL:BLe (js.map fL) (pre.map (renB js))) (hi:inBs js.length pre=true) (hia:inPs js.length args=true) (hd:Nat.blt d n=true) (hn2:(renR js (res A)).noOsl=true)
   (kk:K ⟨updp (Xk_ js fF) d (.gv g (renR js (res A))),newL js pre fL⟩):E2 P n N H0 all ⟨some d, .call ⟨.value x,as0,ats⟩,ty,pos,af,some (j,want)⟩ js ⟨fF,fL⟩ K:=SW.gcallg (s:=⟨fF,fL⟩) js hg h hr ha hc hno he hj hl hL hi hia hd hn2 kk
end Go.SW.V
namespace Go.SW.V
open Go.SW
def rl(l:List (Nat×UInt8)):Bs:=l.flatMap λx=>List.replicate x.1 x.2
abbrev p25:F_:=(⟨4,1,[(⟨[108,111,119],(⟨0,0⟩:Cr_),500,1⟩:Av_)],[0],[]⟩:F_)
abbrev d25n:G_:=(⟨12,0,(⟨[],0,[]⟩:W_),(⟨[],0,0,[]⟩:T_),(⟨[],[],false,[],[],false⟩:O_),[],0,0,0,9,0,(⟨0,[],[],[],[],0,0⟩:Mail),[]⟩:G_)
abbrev d25w:G_:=(⟨11,0,(⟨[],0,[]⟩:W_),(⟨[],0,0,[]⟩:T_),(⟨[],[],false,[],[],false⟩:O_),[],0,0,0,0,0,(⟨0,[],[],[],[],0,0⟩:Mail),[]⟩:G_)
def d25a:Bw_:=⟨rl [(1,83),(1,84),(1,82),(1,87),(7,0),(1,1),(1,36),(1,130),(1,170),(1,105),(1,165),(50,0),(1,225),(5,0),(1,10),(7,0),(1,1),(211,0),(1,189),(1,15),(1,98),(1,114),(1,165),(4822,0)],[],true,false,0,0⟩
def d25c:Bw_:=⟨rl [(1,83),(1,84),(1,82),(1,87),(7,0),(1,1),(1,36),(1,130),(1,170),(1,105),(1,165),(50,0),(1,225),(5,0),(1,10),(7,0),(1,1),(211,0),(1,189),(1,15),(1,98),(1,114),(1,165),(3,0),(1,13),(1,1),(1,12),(8,0),(1,9),(2,0),(1,169),(1,88),(1,46),(1,109),(1,165),(4800,0)],[],true,false,0,0⟩
def d25f:Bw_:=⟨rl [(1,83),(1,84),(1,82),(1,87),(7,0),(1,1),(1,36),(1,130),(1,170),(1,105),(1,165),(50,0),(1,225),(5,0),(1,10),(7,0),(1,1),(211,0),(1,189),(1,15),(1,98),(1,114),(1,165),(3,0),(1,13),(1,1),(1,12),(8,0),(1,9),(2,0),(1,169),(1,88),(1,46),(1,109),(1,165),(2240,0),(1,83),(1,84),(1,82),(1,87),(7,0),(1,2),(1,189),(1,139),(1,251),(1,211),(1,165),(50,0),(1,247),(5,0),(1,10),(7,0),(1,1),(9,0),(2,2),(8,0),(1,9),(10,0),(1,3),(202,0),(1,79),(1,2),(1,175),(1,135),(1,165),(2240,0)],[],true,false,0,0⟩
def g25a:Dy_:=⟨d25a,0,1,true,false,rl [(3,0),(1,225),(5,0),(1,10),(7,0),(1,1),(211,0),(1,189),(1,15),(1,98),(1,114),(1,165)],[]⟩
def g25b:Dy_:=⟨d25a,0,1,true,false,rl [(3,0),(1,225),(5,0),(1,10),(7,0),(1,1),(211,0),(1,189),(1,15),(1,98),(1,114),(1,165)],rl [(3,0),(1,13),(1,1),(1,12),(8,0),(1,9),(2,0),(1,169),(1,88),(1,46),(1,109),(1,165)]⟩
def g25c:Dy_:=⟨d25c,0,1,true,false,rl [(3,0),(1,225),(5,0),(1,10),(7,0),(1,1),(211,0),(1,189),(1,15),(1,98),(1,114),(1,165),(3,0),(1,13),(1,1),(1,12),(8,0),(1,9),(2,0),(1,169),(1,88),(1,46),(1,109),(1,165)],[]⟩
def g25f:Dy_:=⟨d25f,1,2,true,false,rl [(3,0),(1,247),(5,0),(1,10),(7,0),(1,1),(9,0),(2,2),(8,0),(1,9),(10,0),(1,3),(202,0),(1,79),(1,2),(1,175),(1,135),(1,165)],[]⟩
def s25a:D_:=Bu_ p25 0
def s25b:D_:=(K_ s25a d25n).1
def s25f:D_:=(K_ s25b d25w).1
end Go.SW.V
